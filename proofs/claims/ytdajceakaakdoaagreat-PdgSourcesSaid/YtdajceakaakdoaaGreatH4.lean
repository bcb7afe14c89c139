/- Part of an evaluator that is sound over the model. Conditions: none. -/
import Derived.Test.YtdajceakaakdoaaGreatH3
import Derived.Orders
import GoSem.ClaimChange
import Derived.SizedLaws
set_option linter.unusedSimpArgs false
set_option linter.unusedVariables false
namespace Go.Hl
open Go Go.RowKit
def X2H:List Operand->List Nat
 |[]=>[]
 | .tmp t::l=>t::X2H l
 |_::l=>X2H l
def XW:Op->List Operand
 | .nilCheck x=>[x]
 | .makeFunc _ _ caps=>caps.toList
 | .slice _ x l h _=>x::(l.toList++h.toList)
 | .index _ x i| .lookup _ x i _=>[x,i]
 | .mapUpdate _ m k v=>[m,k,v]
 | .move x| .assign x| .box _ x| .load _ x| .unOp _ _ x| .fieldAddr _ x _| .field _ x _| .extract x _| .range _ x| .next x _| .entry x=>[x]
 | .pick c a b=>[c,a,b]
 | .buildSlice _ _ ps=>ps.toList.map (·.2)
 | .build _ ps=>ps.toList.map (·.2)
 | .store _ a v| .binOp _ _ a v _| .makeSlice _ a v| .indexAddr _ a v=>[a,v]
 | .call {callee:=.value f,args:=args, .. }=>f::args.toList
 | .call {args:=args, .. }=>args.toList
 |_=>[]
def Xb0 (ops:Array Oper) (o:Oper):List Nat:=
 match o.guard with
 |none=>[]
 |some (j,_)=>((ops[j]?).bind (·.dst)).toList
def X4J (ops:Array Oper) (o:Oper):List Nat:=Xb0 ops o++X2H (XW o.op)
theorem opd_ins {regs:List (Nat×RV)} {d:Nat} {r:RV} {l:List Operand} (h:d∉X2H l):∀x∈l,opd (ins d r regs) x=opd regs x:=by
 intro x hx;cases x with
 | tmp t=>
   have:t≠d:=by
    rintro rfl;apply h;clear h
    induction l with
    |nil=>cases hx
    | cons y l ih=>
      rcases Nh.1 hx with rfl|hm
      .simp[X2H]
      have:=ih hm;cases y<;>simp[X2H,this]
   simp only[opd];rw[Xz this]
 |const v=>rfl
 |global g=>rfl
 |func f=>rfl
section
variable {P:Program} {g g':Operand->RV}
theorem X3J {size:Nat}:∀(l:List (Nat×Operand)) (k:Nat),(∀x∈l.map (·.2),g x=g' x)->WV size g k l=WV size g' k l
 |[],_,_=>rfl
 | (i,x)::l,k,h=>by
   unfold WV;rw[h x (by simp),X3J l (k+1) (fun y hy=>h y (by simp at hy⊢;exact .inr hy))]
theorem X5x {objs:List (Nat×Ob)}:∀(l:List Operand),(∀x∈l,g x=g' x)->X1w objs g l=X1w objs g' l
 |[],_=>rfl
 | x::l,h=>by
   unfold X1w;rw[h x (by simp),X5x l fun y hy=>h y (by simp[hy])]
theorem X4W {ti:TI}:∀(l:List (Nat×Operand)) (cs:List CV),(∀x∈l.map (·.2),g x=g' x)->QE P ti g cs l=QE P ti g' cs l
 |[],_,_=>rfl
 | (i,x)::l,cs,h=>by
   unfold QE;rw[h x (by simp)];split
   .split
    .exact X4W l _ fun y hy=>h y (by simp at hy⊢;exact .inr hy)
    rfl
   rfl
theorem X3p:∀(l:List Operand),(∀x∈l,g x=g' x)->X0A g l=X0A g' l
 |[],_=>rfl
 | x::l,h=>by
   unfold X0A;rw[h x (by simp),X3p l fun y hy=>h y (by simp[hy])]
theorem X9j {l:List (Nat×Operand)} (h:∀x∈l.map (·.2),g x=g' x):X0e g l=X0e g' l:=by
 unfold X0e;split
 .rename_i x;rw[h x (by simp)]
 rfl
theorem X5M {c:Call} (h:∀x∈c.args.toList,g x=g' x):evN P g (.call c)=evN P g' (.call c):=by
 obtain⟨callee,args,ts⟩:=c;cases callee with
 | builtin b=>
   cases b<;>try rfl
   .simp only[evN];split
    .rename_i x y hxy;rw[h x (by simp only[hxy];simp),h y (by simp only[hxy];simp)]
    rfl
   simp only[evN];split
   .rename_i x y hxy;rw[h x (by simp only[hxy];simp),h y (by simp only[hxy];simp)]
   rfl
 |_=>rfl
theorem XbP {op:Op} (h:∀x∈XW op,g x=g' x):evN P g op=evN P g' op:=by
 by_cases hc:∃c,op=.call c
 .obtain⟨c,rfl⟩:=hc;refine X5M fun x hx=>h x ?_;obtain⟨callee,args,ts⟩:=c;cases callee<;>simp[XW]<;>first|exact .inr (by simpa using hx)|simpa using hx
 by_cases hb:∃t ps,op=.build t ps
 .obtain⟨t,ps,rfl⟩:=hb;simp only[evN,XW]at h⊢;split
  .rw[X4W (g:=g) (g':=g') ps.toList _ h]
  rfl
 by_cases hsl:∃t x l hi m,op=.slice t x l hi m
 .obtain⟨t,x,l,hi,m,rfl⟩:=hsl;simp only[XW,Nh,Ng,Option.mem_toList]at h;cases m with
  |some m=>rfl
  | none=>
    have h1:∀dflt,X0Q g dflt l=X0Q g' dflt l:=by
     intro dflt;cases l with
     |none=>rfl
     |some y=>simp only[X0Q];rw[h y (by simp)]
    have h2:∀dflt,X0Q g dflt hi=X0Q g' dflt hi:=by
     intro dflt;cases hi with
     |none=>rfl
     |some y=>simp only[X0Q];rw[h y (by simp)]
    simp only[evN,h1,h2,h x (by simp)]
 by_cases hm:∃f fs cs,op=.makeFunc f fs cs
 .obtain⟨f,fs,cs,rfl⟩:=hm;simp only[evN,XW]at h⊢;split
  .rw[X3p (g:=g) (g':=g') cs.toList h]
  rfl
 cases op<;>try(exfalso;exact hc ⟨_,rfl⟩)
 all_goals try(exfalso;exact hb ⟨_,_,rfl⟩)
 all_goals try(exfalso;exact hm ⟨_,_,_,rfl⟩)
 all_goals try(exfalso;exact hsl ⟨_,_,_,_,_,rfl⟩)
 all_goals simp only[evN,XW,Nh,De,or_false,forall_eq_or_imp,forall_eq]at* <;>simp only[h]
theorem Xcw {d:Nat} {op:Op} (h:∀x∈XW op,g x=g' x):evA P g d op=evA P g' d op:=by
 cases op<;>simp only[evA]
 case box e x=>rw[h x (by simp[XW])]
 case buildSlice t n ps=>simp only[X3J (g:=g) (g':=g') ps.toList 0 h,X9j (g:=g) (g':=g') h]
 case makeSlice t l c=>rw[h l (by simp[XW]),h c (by simp[XW])]
 case makeMap t r=>cases r<;>rfl
 case range t x=>rw[h x (by simp[XW])]
theorem X3K {c:Call} {i:Nat} {x:Operand} (hx:c.args[i]? =some x):x∈XW (.call c):=by
 obtain⟨callee,args,ts⟩:=c;have:x∈args.toList:=Array.mem_toList_iff.2 (Array.mem_of_getElem? hx);cases callee<;>simp[XW]<;>first|exact .inr (by simpa using this)|simpa using this
theorem XbZ {objs:List (Nat×Ob)} {op:Op} (h:∀x∈XW op,g x=g' x):evR P objs g op=evR P objs g' op:=by
 cases op with
 |load t x=>simp only[evR];rw[h x (by simp[XW])]
 |indexAddr t x i=>simp only[evR];rw[h x (by simp[XW]),h i (by simp[XW])]
 |lookup t x i ok=>simp only[evR];rw[h x (by simp[XW]),h i (by simp[XW])]
 |entry x=>simp only[evR];rw[h x (by simp[XW])]
 | call c=>
   obtain⟨callee,args,ts⟩:=c;cases callee with
   | builtin b=>
     cases b<;>try rfl
     simp only[evR];cases ht:ts[0]? with
     |none=>rfl
     | some t=>
       cases hx:args[0]? with
       |none=>rfl
       |some x=>simp only[];rw[h x (X3K (c:=⟨_,args,ts⟩) hx)]
   |_=>rfl
 |_=>rfl
theorem XbU {objs:List (Nat×Ob)} {d:Option Nat} {op:Op} (h:∀x∈XW op,g x=g' x):evW P objs g d op=evW P objs g' d op:=by
 cases op with
 |store t x y=>simp only[evW];rw[h x (by simp[XW]),h y (by simp[XW])]
 |mapUpdate t m k v=>simp only[evW];rw[h m (by simp[XW]),h k (by simp[XW]),h v (by simp[XW])]
 | call c =>
   obtain⟨callee,args,ts⟩:=c;cases callee with
   | builtin b =>
     cases b<;>try rfl
     simp only[evW];cases d with
     |none=>rfl
     | some d =>
       cases ht:ts[0]? with
       |none=>rfl
       | some t=>
         cases ht':ts[1]? with
         |none=>rfl
         | some t'=>
           cases hx:args[0]? with
           |none=>rfl
           | some x=>
             cases hy:args[1]? with
             |none=>rfl
             | some y=>
               simp only[];rw[h x (X3K (c:=⟨_,args,ts⟩) hx),h y (X3K (c:=⟨_,args,ts⟩) hy)]
   |_=>rfl
 |_=>rfl
end
section
variable {P:Program} {g:Operand->RV} {d:Nat} {ob:Ob} {objs:List (Nat×Ob)}
theorem X39 {objs objs':List (Nat×Ob)} {op:Op} (h:∀x∈XW op,∀n,(g x).men n->lkp objs' n=lkp objs n):evR P objs' g op=evR P objs g op:=by
 have hat:∀{x:Operand} {n off:Nat},x∈XW op->g x=.v (.one (.at_ n off))->lkp objs' n=lkp objs n:=fun hx hg=>h _ hx _ (by rw[hg];exact rfl);have hel:∀{x:Operand} {n s i off:Nat},x∈XW op->g x=.v (.one (.el n s i off))->lkp objs' n=lkp objs n:=fun hx hg=>h _ hx _ (by rw[hg];exact rfl);have hel2:∀{x:Operand} {n s i j off:Nat},x∈XW op->g x=.v (.one (.el2 n s i j off))->lkp objs' n=lkp objs n:=fun hx hg=>h _ hx _ (by rw[hg];exact rfl);have how:∀{x:Operand} {n:Nat},x∈XW op->g x=.v (.one (.own n))->lkp objs' n=lkp objs n:=fun hx hg=>h _ hx _ (by rw[hg];exact rfl);have hsub:∀{x:Operand} {n i:Nat},x∈XW op->g x=.v (.one (.sub n i))->lkp objs' n=lkp objs n:=fun hx hg=>h _ hx _ (by rw[hg];exact rfl);cases op with
 | load t x=>
   simp only[evR];split
   .rename_i hg;rw[hat (by simp[XW]) hg]
   .rename_i hg;rw[hel (by simp[XW]) hg]
   .rename_i hg;rw[hel2 (by simp[XW]) hg]
   .rfl
   rfl
 | indexAddr t x i=>
   simp only[evR];split
   .split
    .split
     .split
      .rfl
      .rename_i hg;rw[how (by simp[XW]) hg]
      .rename_i hg;rw[hsub (by simp[XW]) hg]
      rfl
     rfl
    rfl
   rfl
 | lookup t x i ok=>
   simp only[evR]
   have:X77 objs' (g x)=X77 objs (g x):=by
    unfold X77;split
    .rfl
    .rfl
    .rename_i hg;rw[how (by simp[XW]) hg]
    .rename_i hg;rw[hsub (by simp[XW]) hg]
    rfl
   rw[this]
 | entry x=>
   simp only[evR];unfold X40;split
   .rename_i hg;rw[hat (by simp[XW]) hg]
   rfl
 | call c=>
   obtain⟨callee,args,ts⟩:=c;cases callee with
   | builtin b=>
     cases b<;>try rfl
     simp only[evR];split
     .rename_i t x ht hx;split
      .rfl
      .rfl
      .rename_i hg;rw[how (X3K (c:=⟨_,args,ts⟩) hx) hg]
      .rename_i hg;rw[hsub (X3K (c:=⟨_,args,ts⟩) hx) hg]
      .rfl
      rfl
     rfl
   |_=>rfl
 |_=>rfl
theorem X7u {op:Op} (h:∀x∈XW op,¬(g x).men d):evR P (ins d ob objs) g op=evR P objs g op:=
 X39 fun x hx n hn=>Xz (fun e=>by subst e;exact h x hx hn) ob objs
theorem X2o {T:Type}:∀{l:List (Nat×T)} {k:Nat} {x:T},QV ((k,x)::l)=true->∀p∈l,k<p.1
 |[],_,_,_=>by simp
 | (m,y)::l,k,x,h=>by
   simp only[QV,N4,N6]at h;intro p hp;rcases Nh.1 hp with rfl|hp
   .exact h.1
   have:=X2o (k:=m) (x:=y) (by simp only[QV,N4];exact h.2) p hp;omega
theorem X0O {T:Type} {l:List (Nat×T)} {k:Nat} {x:T} (h:QV ((k,x)::l)=true):QV l=true:=by
 simp only[QV,N4]at h;exact h.2
theorem X2d {T:Type} {l:List (Nat×T)} {k:Nat} {x:T} (h:QV l=true) (hk:∀p∈l,k<p.1):QV ((k,x)::l)=true:=by
 simp only[QV,N4];refine⟨?_,h⟩;cases l with
 |nil=>rfl
 |cons p l=>exact Db (hk p (by simp))
theorem X9r {T:Type} {n:Nat} {x:T} {p:Nat×T}:∀{l:List (Nat×T)},p∈ins n x l->p=(n,x)\/p∈l
 |[],h=>by simpa[ins]using h
 | (k,y)::l,h=>by
   unfold ins at h;split at h
   .simpa using h
   split at h
   .rcases Nh.1 h with e|h
    .exact .inl e
    exact .inr (by simp[h])
   rcases Nh.1 h with e|h
   .exact .inr (by simp[e])
   rcases X9r h with e|h
   .exact .inl e
   exact .inr (by simp[h])
theorem X3k {T:Type} {n:Nat} {p:Nat×T}:∀{l:List (Nat×T)},p∈del n l->p∈l
 |[],h=>h
 | (k,y)::l,h=>by
   unfold del at h;split at h
   .exact NS _ (X3k h)
   rcases Nh.1 h with e|h
   .simp[e]
   exact NS _ (X3k h)
theorem Wc {T:Type} {n:Nat} {x:T}:∀{l:List (Nat×T)},QV l=true->QV (ins n x l)=true
 |[],_=>rfl
 | (k,y)::l,h=>by
   unfold ins;split
   .rename_i hk;refine X2d h fun p hp=>?_;rcases Nh.1 hp with rfl|hp
    .exact hk
    have:=X2o h p hp;omega
   split
   .rename_i _ e;subst e;exact X2d (X0O h) fun p hp=>X2o h p hp
   rename_i h1 h2;refine X2d (Wc (X0O h)) fun p hp=>?_;rcases X9r hp with rfl|hp
   .show k<n;omega
   exact X2o h p hp
theorem ZO {T:Type} {n:Nat}:∀{l:List (Nat×T)},QV l=true->QV (del n l)=true
 |[],_=>rfl
 | (k,y)::l,h=>by
   unfold del;split
   .exact ZO (X0O h)
   exact X2d (ZO (X0O h)) fun p hp=>X2o h p (X3k hp)
theorem X2e {T:Type} {n d:Nat} (hne:n≠d) (x:T):∀{l:List (Nat×T)},QV l=true->del n (ins d x l)=ins d x (del n l)
 |[],_=>by simp[ins,del,Ne.symm hne]
 | (k,y)::l,h=>by
   have ih:=X2e hne x (X0O h);by_cases h1:d<k
   .rw[WT h1]
    have hd:∀m:List (Nat×T),(∀p∈m,d<p.1)->ins d x m=(d,x)::m:=by
     intro m hm;cases m with
     |nil=>rfl
     |cons p m=>exact WT (hm p (by simp)) _ _ _
    rw[hd (del n ((k,y)::l)) (fun p hp=>by
     rcases Nh.1 (X3k hp)with rfl|hp
     .exact h1
     have:=X2o h p hp;omega)]
    conv=>lhs;unfold del
    rw[N7 (Ne.symm hne)]
   by_cases h2:d=k
   .subst h2;rw[X0x]
    conv=>lhs;unfold del
    conv=>rhs;unfold del
    rw[N7 (Ne.symm hne),N7 (Ne.symm hne),X0x]
   have h3:k<d:=by omega
   rw[Wl h3]
   conv=>lhs;unfold del
   conv=>rhs;unfold del
   split
   .exact ih
   rw[ih,Wl h3]
theorem XaS {e:TypeId} {ti:TI} {d':Nat} {x y:RV} (hs:QV objs=true) (hne:d'≠d) (ho:∀n o,(n,o)∈objs->n≠d/\¬o.men d) (hx:¬x.men d) (hy:¬y.men d):
  Zj (ins d ob objs) e ti d' x y=(Zj objs e ti d' x y).map (ins d ob):=by
 unfold Zj;split
 .rename_i n;have hn:n≠d:=hx;rw[Xz hn];split
  .rename_i e1 e' s rows hl;split
   .rename_i m;have hm:m≠d:=hy;rw[Xz hm];split
    .rename_i e3 r hr;have hrd:r≠d:=fun e=>(ho m _ (XC hr)).2 (by simp[Ob.men,e]);rw[Xz hrd];split
     .split
      .simp only[Option.map_some];rw[X2e hn ob hs,X2e hrd ob (ZO hs),Wd hne]
      rfl
     rfl
    rfl
   rfl
  rfl
 rfl
theorem XaH {e:TypeId} {sz:Nat} {x:RV} (hx:¬x.men d):WU (ins d ob objs) e sz x=WU objs e sz x:=by
 unfold WU;split
 .rfl
 .rename_i n;rw[Xz (show n≠d from hx)]
 rfl
theorem XaM {sz:Nat} {x:RV} (hx:¬x.men d):Wq (ins d ob objs) sz x=Wq objs sz x:=by
 unfold Wq;split
 .rfl
 .rename_i n;rw[Xz (show n≠d from hx)]
 rfl
theorem XaV {e:TypeId} {sz:Nat} {x:RV} {n:Nat} {rows:List (List CD)} (h:WU objs e sz x=some (some n,rows)):x.men n:=by
 unfold WU at h;split at h
 .cases h
 .split at h
  .split at h
   .cases h;exact rfl
   cases h
  cases h
 cases h
theorem XaO {args :Array Operand} {ts:Array TypeId} {dst:Option Nat} (hs:QV objs=true) (hne:∀d',dst=some d'->d'≠d) (ho:∀n o,(n,o)∈objs->n≠d/\¬o.men d) (hx:∀x∈args.toList,¬(g x).men d):
  evW P (ins d ob objs) g dst (.call {callee:=.builtin .append,args:=args,argTypes:=ts})=(evW P objs g dst (.call {callee:=.builtin .append,args:=args,argTypes:=ts})).map fun p=>(p.1,ins d ob p.2):=by
 simp only[evW];cases dst with
 |none=>rfl
 | some d' =>
   have hne':=hne d' rfl;cases ht:ts[0]? with
   |none=>rfl
   | some t =>
     cases ht':ts[1]? with
     |none=>rfl
     | some t' =>
       cases hxx:args[0]? with
       |none=>rfl
       | some x =>
         cases hyy:args[1]? with
         |none=>rfl
         | some y =>
           have hx':¬(g x).men d:=hx x (Array.mem_toList_iff.2 (Array.mem_of_getElem? hxx));have hy':¬(g y).men d:=hx y (Array.mem_toList_iff.2 (Array.mem_of_getElem? hyy));simp only[];split
           .split
            .rename_i e he;split
             .rename_i ti hti;rw[XaS hs hne' ho hx' hy',XaH hx',XaM hy'];cases Zj objs e ti d' (g x) (g y)with
              |some o2=>rfl
              | none =>
                simp only[Option.map_none];split
                .rename_i n rows more hb hm;split
                 .simp only[Option.map_some];cases n with
                  |none=>simp only[];rw[Wd hne']
                  | some n=>
                    have hn:n≠d:=fun e=>hx' (e▸XaV hb);simp only[];rw[X2e hn ob hs,Wd hne']
                 rfl
                rfl
             rfl
            rfl
           rfl
theorem Xcm {t:TypeId} {x y:Operand} {dst:Option Nat} (hs:QV objs=true) (h:¬(g x).men d) (hy:¬(g y).men d):
  evW P (ins d ob objs) g dst (.store t x y)=(evW P objs g dst (.store t x y)).map fun p=>(p.1,ins d ob p.2):=by
 simp only[evW];split
 .rename_i n off _ _ hg;have hne:n≠d:=fun e=>h (by rw[hg];exact e);rw[Xz hne];split
  .split
   .split
    .simp only[Option.map_some];rw[Wd hne]
    rfl
   rfl
  rfl
 .rename_i n s i off _ _ hg;have hne:n≠d:=fun e=>h (by rw[hg];exact e);rw[Xz hne];split
  .split
   .split
    .simp only[Option.map_some];rw[Wd hne]
    rfl
   .split
    .rename_i m hgy;have hm:m≠d:=fun e=>hy (by rw[hgy];exact e);rw[Xz hm];split
     .split
      .simp only[Option.map_some];rw[X2e hm ob hs,Wd hne]
      rfl
     rfl
    rfl
   .split
    .rename_i m hgy;have hm:m≠d:=fun e=>hy (by rw[hgy];exact e);rw[Xz hm];split
     .split
      .simp only[Option.map_some];rw[X2e hm ob hs,Wd hne]
      rfl
     rfl
    rfl
   rfl
  rfl
 .rename_i n s i j off _ _ hg;have hne:n≠d:=fun e=>h (by rw[hg];exact e);rw[Xz hne];split
  .split
   .split
    .split
     .simp only[Option.map_some];rw[Wd hne]
     rfl
    rfl
   rfl
  rfl
 rfl
theorem XbL (ho:∀n o,(n,o)∈objs->n≠d/\¬o.men d):∀k:Nat,(∀x:CV,¬x.men d->Zl k (ins d ob objs) x=Zl k objs x)/\
  (∀l:List CV,(∀x∈l,¬x.men d)->X4n k (ins d ob objs) l=X4n k objs l)/\(∀l:List (Nat×Nat),(∀p∈l,p.1≠d)->X20 k (ins d ob objs) l=X20 k objs l):=by
 have hL:∀k,(∀x:CV,¬x.men d->Zl k (ins d ob objs) x=Zl k objs x)->
   (∀l:List CV,(∀x∈l,¬x.men d)->X4n k (ins d ob objs) l=X4n k objs l)/\(∀l:List (Nat×Nat),(∀p∈l,p.1≠d)->X20 k (ins d ob objs) l=X20 k objs l):=by
  intro k hC;refine⟨fun l=>?_,fun l=>?_⟩
  .induction l with
   |nil=>intro _;simp only[X4n]
   | cons x l ih=>
     intro h;simp only[X4n];rw[hC x (h x (by simp)),ih fun y hy=>h y (by simp[hy])]
  induction l with
  |nil=>intro _;simp only[X20]
  | cons p l ih=>
    obtain⟨n,off⟩:=p;intro h;simp only[X20];rw[hC (.at_ n off) (h (n,off) (by simp)),ih fun y hy=>h y (by simp[hy])]
 intro k
 induction k with
 | zero=>
   have h0:∀x:CV,¬x.men d->Zl 0 (ins d ob objs) x=Zl 0 objs x:=by intro x _;simp only[Zl]
   exact⟨h0,hL 0 h0⟩
 | succ k ih=>
   have hC:∀x:CV,¬x.men d->Zl (k+1) (ins d ob objs) x=Zl (k+1) objs x:=by
    intro x hx;cases x with
    |own n=>simp only[Zl];rw[Xz hx]
    |sub n i=>simp only[Zl];rw[Xz hx]
    | at_ n off=>
      simp only[Zl];rw[Xz hx];split
      .rename_i cs hl;rw[ih.2.1 cs fun y hy hyd=>(ho n _ (XC hl)).2 ⟨y,hy,hyd⟩]
      rfl
    | fn f caps=>
      simp only[Zl];rw[ih.2.2 caps fun p hp e=>hx ⟨p,hp,e⟩]
    |_=>simp only[Zl]
   exact⟨hC,hL _ hC⟩
theorem Xby (ho:∀n o,(n,o)∈objs->n≠d/\¬o.men d) {x:CV} (h:¬x.men d):brw (ins d ob objs) x=brw objs x:=by
 unfold brw;split
 .rfl
 .rfl
 .rfl
 rw[(XbL ho 4).1 x h]
theorem X8n (ho:∀n o,(n,o)∈objs->n≠d/\¬o.men d):∀{xs:List CV},(∀x∈xs,¬x.men d)->brwL (ins d ob objs) xs=brwL objs xs
 |[],_=>rfl
 | x::xs,h=>by
   simp only[brwL];rw[Xby ho (h x (by simp)),X8n ho fun y hy=>h y (by simp[hy])]
theorem brwT_ins (ho:∀n o,(n,o)∈objs->n≠d/\¬o.men d) {r:RV} (h:¬r.men d):X22 (ins d ob objs) r=X22 objs r:=by
 cases r with
 | v t=>
   cases t with
   |one x=>simp only[X22];rw[Xby ho h]
   |agg xs=>simp only[X22];rw[X8n ho fun x hx hm=>h ⟨x,hx,hm⟩]
 |tup ts=>rfl
theorem X6g (ho:∀n o,(n,o)∈objs->n≠d/\¬o.men d):∀{l:List Operand},(∀x∈l,¬(g x).men d)->X1w (ins d ob objs) g l=X1w objs g l
 |[],_=>rfl
 | x::l,h=>by
   simp only[X1w];rw[brwT_ins ho (h x (by simp)),X6g ho fun y hy=>h y (by simp[hy])]
theorem X3N (ho:∀n o,(n,o)∈objs->n≠d/\¬o.men d) {r:RV} (h:¬r.men d):Wu (ins d ob objs) r=Wu objs r:=by
 unfold Wu;split
 .rename_i f caps;rw[(XbL ho 4).2.2 caps fun p hp e=>h ⟨p,hp,e⟩]
 .rfl
 rfl
theorem X0q {T:Type} {n:Nat} {x:T} {p:Nat×T}:∀{l:List (Nat×T)},p∈ins n x l->p=(n,x)\/p∈l
 |[],h=>by simpa[ins]using h
 | (k,y)::l,h=>by
   unfold ins at h;split at h
   .simpa using h
   split at h
   .rcases Nh.1 h with e|h
    .exact .inl e
    exact .inr (by simp[h])
   rcases Nh.1 h with e|h
   .exact .inr (by simp[e])
   rcases X0q h with e|h
   .exact .inl e
   exact .inr (by simp[h])
theorem X16 {T:Type} {n:Nat} {p:Nat×T}:∀{l:List (Nat×T)},p∈del n l->p∈l
 |[],h=>h
 | (k,y)::l,h=>by
   unfold del at h;split at h
   .exact NS _ (X16 h)
   rcases Nh.1 h with e|h
   .simp[e]
   exact NS _ (X16 h)
theorem X15 {ti:TI} {cs:List CV} {off:Nat} {r:RV} (h:Za ti cs off=some r) (hm:∀x∈cs,¬x.men d):¬r.men d:=by
 unfold Za at h;split at h
 .split at h
  .cases h;rintro⟨x,hx,hxm⟩;exact hm x (DD (DE hx)) hxm
  cases h
 split at h
 .rename_i x hx;cases h;exact hm x (N3 hx)
 cases h
theorem X1O {r:RV} {cs:List CV} (h:cellsOf r=some cs) (hm:¬r.men d):∀x∈cs,¬x.men d:=by
 unfold cellsOf at h;split at h
 .split at h
  .cases h;intro x hx;simp only[Nk]at hx;subst hx;exact hm
  cases h
 .cases h;exact fun x hx hxm=>hm ⟨x,hx,hxm⟩
 cases h
theorem X6M {ti:TI}:∀(l:List (Nat×Operand)) (cs cs':List CV),QE P ti g cs l=some cs'->(∀x∈cs,¬x.men d)->(∀x∈l.map (·.2),¬(g x).men d)->∀x∈cs',¬x.men d
 |[],cs,cs',h,hc,_=>by cases h;exact hc
 | (i, x)::l,cs,cs',h,hc,hl=>by
   unfold QE at h;split at h
   .rename_i off size ys _ hys;split at h
    .refine X6M l _ cs' h (fun y hy=>?_) fun y hy=>hl y (by simp at hy⊢;exact .inr hy);rcases Ng.1 hy with hy|hy
     .rcases Ng.1 hy with hy|hy
      .exact hc y (DE hy)
      exact X1O hys (hl x (by simp)) y hy
     exact hc y (DD hy)
    cases h
   cases h
theorem X6p:∀(l:List Operand) (ps:List (Nat×Nat)),X0A g l=some ps->(∀x∈l,¬(g x).men d)->¬ ∃p∈ps,p.1=d
 |[],ps,h,_=>by cases h;simp
 | x ::l,ps,h,hm=>by
   unfold X0A at h;split at h
   .rename_i n off r hx hr;cases h;rintro⟨p,hp,e⟩;rcases Nh.1 hp with rfl|hp
    .have:=hm x (by simp);rw[hx]at this;exact this e
    exact X6p l r hr (fun y hy=>hm y (by simp[hy])) ⟨p,hp,e⟩
   cases h
theorem evN_men {op:Op} {r:RV} {o:Option Ob} (h:evN P g op=some (r,o)) (hm:∀x∈XW op,¬(g x).men d):¬r.men d:=by
 cases op<;>simp only[evN]at h
 case move x=>cases h;exact hm x (by simp[XW])
 case assign x=>cases h;exact hm x (by simp[XW])
 case pick c a b=>
  split at h
  .split at h
   .split at h
    .cases h;exact id
    cases h
   cases h;split
   .exact hm a (by simp[XW])
   exact hm b (by simp[XW])
  cases h
 case fieldAddr s x f=>
  split at h
  .split at h
   .split at h
    .split at h
     .rename_i hg;cases h;have:=hm x (by simp[XW]);rw[hg]at this;exact this
     .rename_i hg;cases h;have:=hm x (by simp[XW]);rw[hg]at this;exact this
     .rename_i hg;cases h;have:=hm x (by simp[XW]);rw[hg]at this;exact this
     .cases h;exact id
     cases h
    cases h
   cases h
  cases h
 case nilCheck x=>
  split at h
  .cases h;exact hm x (by simp[XW])
  cases h
 case makeFunc f fs cs=>
  split at h
  .simp only[N8]at h;obtain⟨ps,hps,he⟩:=h;cases he;exact X6p cs.toList ps hps hm
  cases h
 case index t x i=>
  split at h
  .rename_i xs hg;split at h
   .split at h
    .split at h
     .simp only[N8]at h;obtain⟨r',hr',he⟩:=h;cases he;refine X15 hr' fun y hy hym=>hm x (by simp[XW]) ?_;rw[hg];exact⟨y,hy,hym⟩
     cases h
    cases h
   cases h
  split at h
  .split at h
   .split at h
    .cases h;exact id
    cases h
   cases h
  cases h
 case slice t x low high m=>
  cases m with
  |some m=>cases h
  |none=>
  simp only at h;split at h
  .split at h
   .split at h
    .split at h
     .split at h
      .split at h
       .cases h;exact id
       cases h
      cases h
     cases h
    cases h
   cases h
  .split at h
   .split at h
    .split at h
     .cases h;exact id
     cases h
    cases h
   cases h
  cases h
 case field t x f=>
  split at h
  .split at h
   .rename_i ti xs _ hg;simp only[N8]at h;obtain⟨r',hr',he⟩:=h;cases he;refine X15 hr' fun y hy hym=>hm x (by simp[XW]) ?_;rw[hg];exact⟨y,hy,hym⟩
   cases h
  cases h
 case extract x i=>
  split at h
  .rename_i ts hg;simp only[N8]at h;obtain⟨t,ht,he⟩:=h;cases he;intro htm;refine hm x (by simp[XW]) ?_;rw[hg];exact⟨t,N3 ht,htm⟩
  cases h
 case binOp op t x y t'=>
  have key:∀(o2:Option (RV×Option Ob)),(∀q,o2=some q->∃v,q.1=lit v)->o2=some (r,o)->¬r.men d:=by
   intro o2 h1 h2;obtain⟨v,hv⟩:=h1 _ h2;simp only at hv;rw[hv];exact id
  split at h
  .split at h
   .exact key _ (fun q hq=>by simp only[N8]at hq;obtain⟨v,_,rfl⟩:=hq;exact⟨v,rfl⟩) h
   cases h
  .exact key _ (fun q hq=>by simp only[N8]at hq;obtain⟨v,_,rfl⟩:=hq;exact⟨v,rfl⟩) h
  .exact key _ (fun q hq=>by simp only[N8]at hq;obtain⟨v,_,rfl⟩:=hq;exact⟨v,rfl⟩) h
  split at h
  .exact key _ (fun q hq=>by simp only[N8]at hq;obtain⟨v,_,rfl⟩:=hq;exact⟨_,rfl⟩) h
  split at h
  .exact key _ (fun q hq=>by simp only[N8]at hq;obtain⟨v,_,rfl⟩:=hq;exact⟨_,rfl⟩) h
  exact key _ (fun q hq=>by simp only[N8]at hq;obtain⟨v,_,rfl⟩:=hq;exact⟨_,rfl⟩) h
 case unOp op t x=>
  split at h
  .simp only[N8]at h;obtain⟨v,hv,he⟩:=h;cases he;exact id
  cases h
 case build t ps=>
  split at h
  .split at h
   .split at h
    .rename_i cs hcs;cases h;rintro⟨x,hx,hxm⟩;exact X6M ps.toList _ cs hcs (fun y hy=>by obtain⟨v,_,rfl⟩:=NF.1 hy;exact id) (fun x hx=>hm x hx) x hx hxm
    cases h
   cases h
  cases h
 case call c=>
  obtain⟨callee,args,ts⟩:=c;cases callee with
  |value f=>cases h
  |invoke f m=>cases h
  | builtin b=>
    cases b<;>simp only at h<;>try cases h
    .split at h
     .split at h
      .split at h
       .cases h;exact id
       cases h
      cases h
     cases h
    split at h
    .split at h
     .split at h
      .cases h;exact id
      cases h
     cases h
    cases h
 all_goals cases h
theorem evA_men {op:Op} {d':Nat} {r:RV} {o:Option Ob} (hd:d'≠d) (h:evA P g d' op=some (r,o)) (hm:∀x∈XW op,¬(g x).men d):¬r.men d/\∀o',o=some o'->¬o'.men d:=by
 cases op<;>simp only[evA]at h
 case alloc e=>
  split at h
  .cases h;refine⟨hd,?_⟩;rintro _ ⟨⟩ ⟨x,hx,hxm⟩;obtain⟨v,_,rfl⟩:=NF.1 hx;exact hxm
  cases h
 case box e x=>
  split at h
  .rename_i cs hcs;cases h;refine⟨hd,?_⟩;rintro _ ⟨⟩ ⟨y,hy,hym⟩;exact X1O hcs (hm x (by simp[XW])) y hy hym
  cases h
 case buildSlice t len parts=>
  split at h
  .split at h
   .split at h
    .split at h
     .cases h;exact⟨hd,by rintro _ ⟨⟩;exact id⟩
     split at h
     .cases h;refine⟨hd,?_⟩;rintro _ ⟨⟩ hmn;obtain⟨x,hpx,hgx⟩:=X60 ‹X0e g parts.toList=some _›;have:=hm x (by simp only[XW];rw[hpx];simp);rw[hgx]at this;simp only[Ob.men,Nk]at hmn;exact this hmn.symm
     cases h
    cases h
   cases h
  cases h
 case makeSlice t l c=>
  split at h
  .split at h
   .split at h
    .cases h;exact⟨hd,by rintro _ ⟨⟩;exact id⟩
    cases h
   cases h
  cases h
 case makeMap t x=>
  cases x with
  |some x=>cases h
  |none=>cases h;exact⟨hd,by rintro _ ⟨⟩;exact id⟩
 case range t x=>
  split at h
  .split at h
   .cases h;exact⟨hd,by rintro _ ⟨⟩;exact id⟩
   .cases h;exact⟨hd,by rintro _ ⟨⟩;exact id⟩
   cases h
  cases h
 all_goals cases h
theorem evR_men {op:Op} {r:RV} (h:evR P objs g op=some r) (hm:∀x∈XW op,¬(g x).men d) (ho:∀n o,lkp objs n=some o->n≠d/\¬o.men d):¬r.men d:=by
 have hdat:∀{ti:TI} {rr:List CD} {off:Nat},Za ti (rr.map .c) off=some r->¬r.men d:=by
  intro ti rr off h;refine X15 h fun y hy hym=>?_;obtain⟨c,_,rfl⟩:=NF.1 hy;exact hym
 unfold evR at h;split at h
 .rename_i t x;split at h
  .split at h
   .rename_i cs hl;exact X15 h fun y hy hym=>(ho _ _ hl).2 ⟨y,hy,hym⟩
   cases h
  .split at h
   .split at h
    .split at h
     .exact hdat h
     cases h
    cases h
   .rename_i hl;split at h
    .split at h
     .cases h;exact(ho _ _ hl).1
     .cases h;exact id
     cases h
    cases h
   .rename_i hl;split at h
    .split at h
     .cases h;exact(ho _ _ hl).1
     .cases h;exact id
     cases h
    cases h
   cases h
  .split at h
   .split at h
    .split at h
     .split at h
      .exact hdat h
      cases h
     cases h
    cases h
   cases h
  .exact hdat h
  cases h
 .rename_i t x i;split at h
  .split at h
   .split at h
    .split at h
     .split at h
      .split at h
       .cases h;exact id
       cases h
      cases h
     .split at h
      .rename_i n hg _ hl;split at h
       .cases h;exact(ho _ _ hl).1
       cases h
      .rename_i n hg _ hl;split at h
       .cases h;exact(ho _ _ hl).1
       cases h
      .rename_i n hg hl;split at h
       .cases h;exact(ho _ _ hl).1
       cases h
      cases h
     .split at h
      .rename_i hl;split at h
       .split at h
        .cases h;exact(ho _ _ hl).1
        cases h
       cases h
      cases h
     cases h
    unfold X7J at h;split at h
    .split at h
     .split at h
      .split at h
       .rename_i hg;cases h;have:=hm x (by simp[XW]);rw[hg]at this;exact this
       .rename_i hg;cases h;have:=hm x (by simp[XW]);rw[hg]at this;exact this
       .cases h;exact id
       cases h
      cases h
     cases h
    cases h
   cases h
  cases h
 .split at h
  .split at h
   .cases h;exact id
   .cases h;exact id
   .split at h
    .cases h;exact id
    .cases h;exact id
    .cases h;exact id
    cases h
   .split at h
    .split at h
     .cases h;exact id
     cases h
    cases h
   .split at h
    .cases h;exact id
    cases h
   cases h
  cases h
 .have hres:∀ok c b,¬(X2O ok c b).men d:=by
   intro ok c b;unfold X2O;split
   .rintro⟨t,ht,hm⟩;simp only[Nh,De,or_false]at ht;rcases ht with rfl|rfl<;>exact hm
   exact id
  split at h
  .split at h
   .cases h;exact hres _ _ _
   .cases h;exact hres _ _ _
   cases h
  cases h
 .unfold X40 at h;split at h
  .split at h
   .split at h
    .split at h
     .cases h;rintro⟨t,ht,hm⟩;simp only[Nh,De,or_false]at ht;rcases ht with rfl|rfl<;>exact hm
     cases h
    cases h
   cases h
  cases h
 cases h
theorem evW_men {op : Op} {dst:Option Nat} {r:RV} {objs':List (Nat×Ob)} (hd:∀d',dst=some d'->isAlloc op=true->d'≠d) (h:evW P objs g dst op=some (r,objs')) (hm:∀x∈XW op,¬(g x).men d)
  (ho:∀n o,(n,o)∈objs->n≠d/\¬o.men d):¬r.men d/\∀n o,(n,o)∈objs'->n≠d/\¬o.men d:=by
 have hput:∀(n:Nat) (o o':Ob) (l:List (Nat×Ob)),lkp objs n=some o->¬o'.men d->(∀p,p∈l->p∈objs)->∀m q,(m,q)∈ins n o' l->m≠d/\¬q.men d:=by
  intro n o o' l hl ho' hsub m q hlm;rcases X0q hlm with e|hlm
  .cases e;exact⟨(ho _ _ (XC hl)).1,ho'⟩
  exact ho m q (hsub _ hlm)
 unfold evW at h;split at h
 .rename_i t x y;split at h
  .rename_i n off _ hcs hg;split at h
   .split at h
    .rename_i xs hl;split at h
     .cases h;refine⟨id,hput _ _ _ objs hl ?_ fun _ h=>h⟩;rintro⟨z,hz,hzm⟩;rcases Ng.1 hz with hz|hz
      .rcases Ng.1 hz with hz|hz
       .exact(ho _ _ (XC hl)).2 ⟨z,DE hz,hzm⟩
       exact X1O hcs (hm y (by simp[XW])) z hz hzm
      exact(ho _ _ (XC hl)).2 ⟨z,DD hz,hzm⟩
     cases h
    cases h
   cases h
  .split at h
   .split at h
    .rename_i hl _;split at h
     .cases h;exact⟨id,hput _ _ _ objs hl id fun _ h=>h⟩
     cases h
    .rename_i hl _;split at h
     .split at h
      .split at h
       .cases h;exact⟨id,hput _ _ _ _ hl id fun _ h=>X16 h⟩
       cases h
      cases h
     cases h
    .rename_i hl _;split at h
     .split at h
      .split at h
       .cases h;exact⟨id,hput _ _ _ _ hl id fun _ h=>X16 h⟩
       cases h
      cases h
     cases h
    cases h
   cases h
  .split at h
   .split at h
    .rename_i hl _;split at h
     .split at h
      .cases h;exact⟨id,hput _ _ _ objs hl id fun _ h=>h⟩
      cases h
     cases h
    cases h
   cases h
  cases h
 .split at h
  .split at h
   .rename_i hl;split at h
    .split at h
     .cases h;exact⟨id,hput _ _ _ objs hl id fun _ h=>h⟩
     .split at h
      .cases h;exact⟨id,hput _ _ _ objs hl id fun _ h=>h⟩
      cases h
     cases h
    cases h
   cases h
  .split at h
   .rename_i hl;split at h
    .split at h
     .split at h
      .cases h;exact⟨id,hput _ _ _ objs hl id fun _ h=>h⟩
      cases h
     cases h
    cases h
   cases h
  cases h
 .cases dst with
  |none=>cases h
  |some d'=>
  split at h
  .rename_i heq _ _ _ _;cases heq;have hne:=hd d' rfl rfl;split at h
   .split at h
    .split at h
     .split at h
      .rename_i objs2 hmat;cases h;refine⟨hne,?_⟩;unfold Zj at hmat;split at hmat
       .split at hmat
        .split at hmat
         .split at hmat
          .split at hmat
           .split at hmat
            .cases hmat;intro m o hlm;rcases X0q hlm with e|hlm
             .cases e;exact⟨hne,id⟩
             exact ho m o (X16 (X16 hlm))
            cases hmat
           cases hmat
          cases hmat
         cases hmat
        cases hmat
       cases hmat
      split at h
      .split at h
       .cases h;refine⟨hne,fun m o hlm=>?_⟩;rcases X0q hlm with e|hlm
        .cases e;exact⟨hne,id⟩
        split at hlm
        .exact ho m o (X16 hlm)
        exact ho m o hlm
       cases h
      cases h
     cases h
    cases h
   cases h
  cases h
 cases h
theorem evW_sort {op : Op} {dst:Option Nat} {r:RV} {objs':List (Nat×Ob)} (h:evW P objs g dst op=some (r,objs')) (hs:QV objs=true):QV objs'=true:=by
 unfold evW at h;split at h
 .split at h
  .split at h
   .split at h
    .split at h
     .cases h;exact Wc hs
     cases h
    cases h
   cases h
  .split at h
   .split at h
    .split at h
     .cases h;exact Wc hs
     cases h
    .split at h
     .split at h
      .split at h
       .cases h;exact Wc (ZO hs)
       cases h
      cases h
     cases h
    .split at h
     .split at h
      .split at h
       .cases h;exact Wc (ZO hs)
       cases h
      cases h
     cases h
    cases h
   cases h
  .split at h
   .split at h
    .split at h
     .split at h
      .cases h;exact Wc hs
      cases h
     cases h
    cases h
   cases h
  cases h
 .split at h
  .split at h
   .split at h
    .split at h
     .cases h;exact Wc hs
     .split at h
      .cases h;exact Wc hs
      cases h
     cases h
    cases h
   cases h
  .split at h
   .split at h
    .split at h
     .split at h
      .cases h;exact Wc hs
      cases h
     cases h
    cases h
   cases h
  cases h
 .split at h
  .split at h
   .split at h
    .split at h
     .split at h
      .rename_i objs2 hmat;cases h;unfold Zj at hmat;split at hmat
       .split at hmat
        .split at hmat
         .split at hmat
          .split at hmat
           .split at hmat
            .cases hmat;exact Wc (ZO (ZO hs))
            cases hmat
           cases hmat
          cases hmat
         cases hmat
        cases hmat
       cases hmat
      split at h
      .split at h
       .cases h;split
        .exact Wc (ZO hs)
        exact Wc hs
       cases h
      cases h
     cases h
    cases h
   cases h
  cases h
 cases h
end
def WR (dst:Option Nat) (r:RV) (regs:List (Nat×RV)):List (Nat×RV):=
 match dst with
 |some d=>ins d r regs
 |none=>regs
theorem HS.put_eq (s:HS) (dst:Option Nat) (r:RV):s.put dst r={s with regs:=WR dst r s.regs}:=by cases dst<;>rfl
def X3o (d:Nat) (ob:Option Ob) (objs:List (Nat×Ob)):List (Nat×Ob):=
 match ob with
 |some o=>ins d o objs
 |none=>objs
inductive Eff (P:Program) (objs:List (Nat×Ob)) (g:Operand->RV) (o:Oper):RV->List (Nat×Ob)->Bool->Prop where
 |neutral {r:RV} {x:Option Ob} (hc:Qj o.op=.neutral) (h:evN P g o.op=some (r,x)):Eff P objs g o r objs true
 |alloc {r:RV} {d:Nat} {ob:Ob} (hc:Qj o.op=.alloc) (hd:o.dst=some d) (h:evA P g d o.op=some (r,some ob)):Eff P objs g o r (ins d ob objs) false
 |read {r:RV} (hc:Qj o.op=.read) (h:evR P objs g o.op=some r):Eff P objs g o r objs true
 |write {r:RV} {objs':List (Nat×Ob)} (hc:Qj o.op=.write) (h:evW P objs g o.dst o.op=some (r,objs')):Eff P objs g o r objs' false
 | call {r:RV} {x:Operand} {args:Array Operand} {ts:Array TypeId} {d:Nat} {f:FuncId} {tvs:List TV} {fresh:Bool} {ob:Option Ob} (hc:Qj o.op=.call) (ho:o.op=.call {callee:=.value x,args:=args,argTypes:=ts})
   (hd:o.dst=some d) {own:Bool} {es:List TV} (hf:Wu objs (g x)=some (f,own,es)) (hts:X1w objs g args.toList=some tvs) (hcon:Con P f fresh (tvs++es) r ob d) (hown:fresh=true\/(own||args.toList.any fun x=>(g x).ownB)=false)
   (honly:r.onlyB ob.isSome d=true) (hflat:∀o,ob=some o->o.flat=true):Eff P objs g o r (X3o d ob objs) ob.isNone
theorem Eff.quiet {P:Program} {objs objs':List (Nat×Ob)} {g:Operand->RV} {o:Oper} {r:RV} (h:Eff P objs g o r objs' true):objs'=objs:=by
 generalize hq:true=q at h;cases h with
 |neutral _ _=>rfl
 |read _ _=>rfl
 |alloc _ _ _=>cases hq
 |write _ _=>cases hq
 | @call x args ts d f tvs fresh ob hc ho hd hf hts hcon hown honly hflat=>
   cases ob with
   |none=>rfl
   |some _=>cases hq
def QA (o:Oper):Bool:=
 match Qj o.op with
 | .alloc=>true
 | .call=>true
 | .write=>true
 |_=>false
def W8 (s:HS) (o:Oper):Prop:=QA o=true->∀d,o.dst=some d->Wb d s=true
def Way (b q:Bool) (st fin:RV->RV):Prop:=(b=true/\st=id/\fin=id)\/(q=true/\st=ZK b/\fin=gdR b)
def Stp (P:Program) (ops:Array Oper) (o:Oper) (s s1:HS):Prop:=
 XP s o.dst=true/\∃b,Zi ops o s=some b/\((b=false/\s1={s with regs:=WR o.dst (.v (.one .any)) s.regs})\/
  (W8 s o/\∃r objs' q st fin,Way b q st fin/\Eff P s.objs (fun x=>st (opd s.regs x)) o r objs' q/\s1={s with regs:=WR o.dst (fin r) s.regs,objs:=objs'}))
section
variable {P:Program} {ops:Array Oper}
theorem X3t {o:Oper} {s s':HS} (hs:X4u P s o=some s'):XP s o.dst=true/\∃r objs' q,Eff P s.objs (opd s.regs) o r objs' q/\s'={s with regs:=WR o.dst r s.regs,objs:=objs'}:=by
 unfold X4u at hs;split at hs
 .rename_i r objs' he;split at hs
  .rename_i hok;cases hs;refine⟨hok,r,objs',?_⟩;rw[HS.put_eq];unfold evOp at he;split at he
   .rename_i hc;split at he
    .rename_i r' x hx;cases he;exact⟨_,.neutral hc hx,rfl⟩
    cases he
   .rename_i hc;split at he
    .rename_i d hd;split at he
     .split at he
      .rename_i r' ob ha;cases he;exact⟨_,.alloc hc hd ha,rfl⟩
      cases he
     cases he
    cases he
   .rename_i hc;split at he
    .rename_i r' hr;cases he;exact⟨_,.read hc hr,rfl⟩
    cases he
   .rename_i hc;refine⟨_,.write hc ?_,rfl⟩;split at he
    .rename_i d hd;split at he
     .rw[hd];exact he
     cases he
    rename_i hd;rw[hd];exact he
   cases he
  cases hs
 cases hs
theorem X7q {o:Oper} {s:HS} {r:RV} {objs':List (Nat×Ob)} {q:Bool} (hok:XP s o.dst=true) (hn:W8 s o) (hc:Qj o.op≠ .call) (he:Eff P s.objs (opd s.regs) o r objs' q):
  X4u P s o=some {s with regs:=WR o.dst r s.regs,objs:=objs'}:=by
 have:evOp P s o=some (r,objs'):=by
  unfold evOp;cases he with
  |neutral hc hx=>rw[hc];simp only[hx]
  | alloc hc hd ha=>
    rw[hc];simp only[hd];rw[Na (hn (by simp[QA,hc]) _ hd)];simp only[ha]
  |read hc hr=>rw[hc];simp only[hr]
  | write hc he=>
    rw[hc];simp only;cases hd:o.dst with
    |none=>rw[hd]at he;exact he
    |some d=>rw[hd]at he;simp only;rw[Na (hn (by simp[QA,hc]) d hd)];exact he
  |call hc'=>exact absurd hc' hc
 unfold X4u;rw[this];simp only;rw[Na hok,HS.put_eq]
theorem X33 {o:Oper} {s:HS} {g:Operand->RV} {K:Nat->RV->Option Ob->Prop} (hcls:Qj o.op=.call) (h:X1v P s g o K):
  ∃d r ob,o.dst=some d/\XP s o.dst=true/\Eff P s.objs g o r (X3o d ob s.objs) ob.isNone/\K d r ob:=by
 unfold X1v at h;split at h
 .rename_i x args ts d ho hd;split at h
  .rename_i f own es tvs hf hts;obtain⟨fresh,r,ob,hcon,hown,hunm,honly,hflat,hok,hk⟩:=h;exact⟨d,r,ob,hd,by rw[hd];exact hok,.call hcls ho hd hf hts hcon hown honly hflat,hk⟩
  exact h.elim
 exact h.elim
theorem X7g {o:Oper} {s:HS} {g:Operand->RV} {r:RV} {objs':List (Nat×Ob)} {q:Bool} {K:Nat->RV->Option Ob->Prop} (hcls:Qj o.op=.call) (hok:XP s o.dst=true) (hn:W8 s o) (he:Eff P s.objs g o r objs' q)
  (hK:∀d ob,o.dst=some d->objs'=X3o d ob s.objs->q=ob.isNone->K d r ob):X1v P s g o K:=by
 cases he with
 | call hc' ho hd hf hts hcon hown honly hflat=>
   rename_i x args ts d f tvs fresh ob own es;unfold X1v;rw[ho,hd];simp only[hf,hts];exact⟨fresh,r,ob,hcon,hown,fun _=>hn (by simp[QA,hcls]) d hd,honly,hflat,by rw[<-hd];exact hok,hK d ob hd rfl rfl⟩
 |neutral h=>rw[hcls]at h;cases h
 |alloc h=>rw[hcls]at h;cases h
 |read h=>rw[hcls]at h;cases h
 |write h=>rw[hcls]at h;cases h
theorem made_put (s:HS) (d:Nat) (ob:Option Ob) (r:RV):(s.made d ob).put (some d) r={s with regs:=WR (some d) r s.regs,objs:=X3o d ob s.objs}:=by cases ob<;>rfl
theorem Xbw {o:Oper} {s:HS} (h:o.guard=none):Zi ops o s=some true:=by unfold Zi;rw[h]
theorem X2B {o:Oper} {l:List Oper} {s:HS} {K:HS->Prop} (hn:W8 s o) (h:wpR P ops (o::l) s K):∃s1,Stp P ops o s s1/\wpR P ops l s1 K:=by
 cases hgd:o.guard with
 | none=>
   simp only[wpR,hgd]at h;split at h
   .rename_i hcls;obtain⟨d,r,ob,hd,hok,he,hk⟩:=X33 hcls h;rw[made_put]at hk;exact⟨_,⟨hok,true,Xbw hgd,.inr ⟨hn,r,_,_,id,id,.inl ⟨rfl,rfl,rfl⟩,he,by rw[hd];rfl⟩⟩,hk⟩
   split at h
   .rename_i s' hs;obtain⟨hok,r,objs',q,he,rfl⟩:=X3t hs;exact⟨_,⟨hok,true,Xbw hgd,.inr ⟨hn,r,objs',q,id,id,.inl ⟨rfl,rfl,rfl⟩,he,rfl⟩⟩,h⟩
   exact h.elim
 | some p =>
   simp only[wpR,hgd]at h;cases hg:Zi ops o s with
   |none=>rw[hg]at h;exact h.elim
   | some b=>
     rw[hg]at h;simp only at h;split at h
     .rename_i hcls;rcases h with⟨hb,hok,hk⟩|h
      .rw[HS.put_eq]at hk;exact⟨_,⟨hok,b,hg,.inl ⟨hb,rfl⟩⟩,hk⟩
      obtain⟨d,r,ob,hd,hok,he,rfl,hk⟩:=X33 hcls h;rw[HS.put_eq]at hk;exact⟨_,⟨hok,b,hg,.inr ⟨hn,r,s.objs,true,ZK b,gdR b,.inr ⟨rfl,rfl,rfl⟩,he,by rw[hd]⟩⟩,hk⟩
     split at h
     .rename_i s' hs;unfold stpG at hs;split at hs
      .rename_i hok;split at hs
       .rename_i hc;split at hs
        .rename_i r x he;cases hs;rw[HS.put_eq]at h;exact⟨_,⟨hok,b,hg,.inr ⟨hn,r,s.objs,true,ZK b,gdR b,.inr ⟨rfl,rfl,rfl⟩,.neutral hc he,rfl⟩⟩,h⟩
        split at hs
        .rename_i hb;cases hs;rw[HS.put_eq]at h;exact⟨_,⟨hok,b,hg,.inl ⟨hb,rfl⟩⟩,h⟩
        cases hs
       .rename_i hc;split at hs
        .rename_i r he;cases hs;rw[HS.put_eq]at h;exact⟨_,⟨hok,b,hg,.inr ⟨hn,r,s.objs,true,ZK b,gdR b,.inr ⟨rfl,rfl,rfl⟩,.read hc he,rfl⟩⟩,h⟩
        split at hs
        .rename_i hb;cases hs;rw[HS.put_eq]at h;exact⟨_,⟨hok,b,hg,.inl ⟨hb,rfl⟩⟩,h⟩
        cases hs
       cases b with
       | true=>
         obtain⟨_,r,objs',q,he,rfl⟩:=X3t hs;exact⟨_,⟨hok,true,hg,.inr ⟨hn,r,objs',q,id,id,.inl ⟨rfl,rfl,rfl⟩,he,rfl⟩⟩,h⟩
       | false=>
         cases hs;rw[HS.put_eq]at h;exact⟨_,⟨hok,false,hg,.inl ⟨rfl,rfl⟩⟩,h⟩
      cases hs
     exact h.elim
theorem X4M {F:Nat->Prop} {T:Nat->Value} {w w0:World} {B:Nat->Prop} {U:Nat->Option Value} {i:Nat} {o:Oper} {s s1:HS} {a:Act} {Kc:Act->World->Prop} {Q:Exit->Act->World->Prop} (hi:ops[i]? =some o)
  (h:Rel w0 B U F T s a w) (hs:Stp P ops o s s1)
  (hK:∀F' T' a' w',(∀b,F b->F' b)->(∀b,F' b->F b\/¬B b)->Rel w0 B U F' T' s1 a' w'->Kc a' w'):wpOp P ops Q i Kc a w:=by
 obtain⟨hok,b,hg,hs⟩:=hs
 -- the operation without its guard
 have skip:b=false->∀r:RV,Xa F T w r undef->s1={s with regs:=WR o.dst r s.regs}->wpOp P ops Q i Kc a w:=by
  intro hb r hr hs1;unfold wpOp;rw[hi];simp only;rw[X06 h hg,hb];simp only[Nz,Nc];refine hK F T _ _ (fun _ h=>h) (fun _ h=>.inl h) ?_;have:=h.step (dst:=o.dst) (r:=r) (v:=undef) (objs':=s.objs) hok h.heap hr (fun _ _ _ _ h=>h);rw[HS.put_eq]at this;rw[hs1];exact this
 rcases hs with⟨hb,hs1⟩|⟨hn,r,objs',q,st,fin,hw,he,hs1⟩
 .exact skip hb (.v (.one .any)) trivial hs1
 cases b with
 | false=>
   rcases hw with⟨h0,_⟩|⟨rfl,rfl,rfl⟩
   .cases h0
   have:=he.quiet;subst this;exact skip rfl (gdR false r) (X19 (by simp) fun _=>rfl) hs1
 | true=>
   unfold wpOp;rw[hi];simp only;rw[X06 h hg];simp only[Nf];refine .inl ?_
   have hst:∀x,Xa F T w (st (opd s.regs x)) (a.eval x):=by
    intro x;rcases hw with⟨_,rfl,_⟩|⟨_,rfl,_⟩
    .exact h.opd x
    exact X2f rfl (h.opd x)
   have hfin:∀{F' T' w'} {r:RV} {v:Value},Xa F' T' w' r v->Xa F' T' w' (fin r) v:=by
    intro F' T' w' r v hr;rcases hw with⟨_,_,rfl⟩|⟨_,_,rfl⟩
    .exact hr
    exact X19 (fun _=>hr) (by simp)
   by_cases hc:Qj o.op=.call
   .refine X26 (K:=fun d r' ob=>r'=r/\objs'=X3o d ob s.objs/\o.dst=some d) h hst (X7g hc hok hn he fun d ob hd ho _=>⟨rfl,ho,hd⟩) fun d r' ob F' T' v w' hd hok' hk h1 h2 hr hv=>?_;obtain⟨rfl,ho,_⟩:=hk;refine hK F' T' _ _ h1 h2 ?_;have hok2:XP (s.made d ob) (some d)=true:=by cases ob<;>exact hok'
    have:=hr.step (dst:=some d) (objs':=(s.made d ob).objs) hok2 hr.heap (hfin hv) fun _ _ _ _ h=>h;rw[hs1,hd,ho];rw[HS.put_eq]at this;cases ob<;>exact this
   rcases hw with⟨_,rfl,rfl⟩|⟨hq,rfl,rfl⟩
   .have hsf:=X7q hok hn hc he;unfold X4u at hsf;split at hsf
    .rename_i r2 objs2 he2;rw[Na hok]at hsf;obtain⟨nx,v,w',T',hrun,hnx,hh,hr,hkeep⟩:=X6q h he2;have hrel:=h.step hok hh hr hkeep;have e:s1=({s with objs:=objs2}:HS).put o.dst r2:=by rw[hs1];exact(Option.some.inj hsf).symm
     rw[<-e]at hrel;unfold Oper.wp;rw[hrun];rcases hnx with rfl|⟨rfl,rfl⟩
     .exact hK F T' _ _ (fun _ h=>h) (fun _ h=>.inl h) hrel
     exact hK F T' _ _ (fun _ h=>h) (fun _ h=>.inl h) hrel
    cases hsf
   subst hq;have:=he.quiet;subst this
   have hv:∃v,(execOp a.eval o).run P w=.ok (.value v) w/\Xa F T w r v:=by
    obtain⟨O',hO,he'⟩:∃O',O'=s.objs/\Eff P s.objs (fun x=>ZK true (opd s.regs x)) o r O' true:=⟨_,rfl,he⟩;clear he hO;generalize hqq:true=q at he';cases he' with
    |neutral _ hx=>obtain⟨_,v,h1,h2⟩:=X2m (F:=F) (T:=T) (w:=w) hst hx;exact⟨v,h1,h2⟩
    |read _ hx=>exact X0U h.heap hst hx
    |alloc _ _ _=>cases hqq
    |write _ _=>cases hqq
    |call hc' _ _ _ _ _ _ _ _=>exact absurd hc' hc
   obtain⟨v,hrun,hr⟩:=hv;unfold Oper.wp;rw[hrun];refine hK F T _ _ (fun _ h=>h) (fun _ h=>.inl h) ?_;have:=h.step (dst:=o.dst) (r:=gdR true r) (v:=v) (objs':=s.objs) hok h.heap (hfin hr) (fun _ _ _ _ h=>h);rw[HS.put_eq]at this;rw[hs1];exact this
end
def X3E:Op->Bool
 | .call {callee:=.builtin .append, .. }=>true
 |_=>false
def X1e:Op->Bool
 | .mapUpdate _ _ _ _=>true
 |_=>false
def X0V (a b:Oper):Bool:=
 match Qj a.op,Qj b.op with
 | .neutral,_=>true
 |_,.neutral=>true
 | .alloc,.alloc=>true
 | .alloc,.read=>true
 | .alloc,.call=>true
 | .alloc,.write=> !X1e b.op
 | .read,.alloc=>true
 | .call,.alloc=>true
 | .write,.alloc=> !X1e a.op
 | .read,.read=>true
 | .read,.call=>true
 | .call,.read=>true
 |_,_=>false
def X6R (dst:Option Nat) (l:List Nat):Bool:=
 match dst with
 |some d=>l.contains d
 |none=>false
def WM (a b:Option Nat):Bool:=
 match a,b with
 |some x,some y=>x==y
 |_,_=>false
section
variable {P:Program} {ops:Array Oper}
theorem Xbh {d:Nat} {s:HS} (h0:d<1000000) (hs:QV s.objs=true) (h1:∀k r,(k,r)∈s.regs->¬r.men d) (h2:∀n o,(n,o)∈s.objs->n≠d/\¬o.men d):Wb d s=true:=by
 simp only[Wb,N4,Nm,N6];refine⟨⟨h0,hs⟩,fun p hp=>?_,fun p hp=>?_⟩
 .simp only[Nw];cases h:p.2.menB d with
  |false=>rfl
  |true=>exact absurd (RV.menB_iff.1 h) (h1 p.1 p.2 hp)
 simp only[bne_iff_ne,Nw,N4];refine⟨(h2 p.1 p.2 hp).1,?_⟩;cases h:p.2.menB d with
 |false=>rfl
 |true=>exact absurd (Ob.menB_iff.1 h) (h2 p.1 p.2 hp).2
theorem X0X {d:Nat} {s:HS} (h:Wb d s=true) {k:Nat} {r:RV} (hr:(k,r)∈s.regs):¬r.men d:=by
 simp only[Wb,N4,Nm]at h;have:=h.2.1 _ hr;intro hm;rw[RV.menB_iff.2 hm]at this;cases this
theorem X04 {d:Nat} {s:HS} (h:Wb d s=true) (n:Nat) (o:Ob) (hr:(n,o)∈s.objs):n≠d/\¬o.men d:=by
 simp only[Wb,N4,Nm]at h;have:=h.2.2 _ hr;simp only[bne_iff_ne,ne_eq]at this;refine⟨this.1,fun hm=>?_⟩;rw[Ob.menB_iff.2 hm]at this;cases this.2
theorem X4g {b:Bool} {d e:Nat} (h:b=true->e≠d):∀{x:CV},x.onlyB b e=true->¬x.men d
 | .own n,hx,hm=>by
   simp only[CV.onlyB,N4,beq_iff_eq]at hx;exact h hx.1 (hx.2.symm.trans hm)
 | .at_ n _,hx,hm=>by
   simp only[CV.onlyB,N4,beq_iff_eq]at hx;exact h hx.1 (hx.2.symm.trans hm)
 | .el n _ _ _,hx,hm=>by
   simp only[CV.onlyB,N4,beq_iff_eq]at hx;exact h hx.1 (hx.2.symm.trans hm)
 | .sub n _,hx,hm=>by
   simp only[CV.onlyB,N4,beq_iff_eq]at hx;exact h hx.1 (hx.2.symm.trans hm)
 | .el2 n _ _ _ _,hx,hm=>by
   simp only[CV.onlyB,N4,beq_iff_eq]at hx;exact h hx.1 (hx.2.symm.trans hm)
 | .fn _ caps,hx,hm=>by
   simp only[CV.onlyB,Dj]at hx;subst hx;obtain⟨p,hp,_⟩:=hm;cases hp
 | .gd _ _,hx,_=>by cases hx
 | .any,_,hm=>hm
 | .c _,_,hm=>hm
theorem Xd0 {b:Bool} {d e:Nat} (h:b=true->e≠d) {x:RV} (hx:x.onlyB b e=true):¬x.men d:=by
 have ht:∀t:TV,t.onlyB b e=true->¬t.men d:=by
  intro t ht;cases t with
  |one x=>exact X4g h ht
  | agg xs=>
    simp only[TV.onlyB,Nm]at ht;rintro⟨x,hx,hm⟩;exact X4g h (ht x hx) hm
 cases x with
 |v t=>exact ht t hx
 | tup ts=>
   simp only[RV.onlyB,Nm]at hx;rintro⟨t,htm,hm⟩;exact ht t (hx t htm) hm
theorem XcU {b:Bool} {r:RV} {d:Nat} (h:¬r.men d):¬(ZK b r).men d:=by
 unfold ZK;split
 .unfold ungd;split
  .exact h
  exact h
 exact h
theorem gdR_men {b:Bool} {r:RV} {d:Nat} (h:¬r.men d):¬(gdR b r).men d:=by
 unfold gdR;split
 .exact h
 .split
  .exact h
  exact id
 .exact h
 exact id
theorem X28 {b q:Bool} {st fin:RV->RV} (h:Way b q st fin) {d:Nat} {r:RV} (hr:¬r.men d):¬(st r).men d/\¬(fin r).men d:=by
 rcases h with⟨_,rfl,rfl⟩|⟨_,rfl,rfl⟩
 .exact⟨hr,hr⟩
 exact⟨XcU hr,gdR_men hr⟩
theorem eff_men {objs objs':List (Nat×Ob)} {g:Operand->RV} {o:Oper} {r:RV} {d:Nat} {q:Bool} (h:Eff P objs g o r objs' q) (hd:QA o=true->o.dst≠some d) (hm:∀x∈XW o.op,¬(g x).men d)
  (ho:∀n o,(n,o)∈objs->n≠d/\¬o.men d):¬r.men d/\∀n o,(n,o)∈objs'->n≠d/\¬o.men d:=by
 cases h with
 |neutral hc h=>exact⟨evN_men h hm,ho⟩
 | alloc hc hdd h=>
   rename_i d' ob;have hne:d'≠d:=fun e=>hd (by simp[QA,hc]) (by rw[hdd,e]);obtain⟨h1,h2⟩:=evA_men hne h hm;refine⟨h1,fun n o hn=>?_⟩;rcases X0q hn with e|hn
   .cases e;exact⟨hne,h2 _ rfl⟩
   exact ho n o hn
 |read hc h=>exact⟨evR_men h hm fun n o hl=>ho n o (XC hl),ho⟩
 | write hc h=>
   refine evW_men (fun d' hd' _ e=>hd (by simp[QA,hc]) (by rw[hd',e])) h hm ho
 | call hc ho' hdd hf hts hcon hown honly hflat=>
   rename_i x args ts d' f tvs fresh ob own es;have hne:d'≠d:=fun e=>hd (by simp[QA,hc]) (by rw[hdd,e]);refine⟨Xd0 (fun _=>hne) honly,fun n o hn=>?_⟩;cases ob with
   |none=>exact ho n o hn
   | some o'=>
     rcases X0q hn with e|hn
     .cases e;refine⟨hne,?_⟩;have:=hflat _ rfl;cases o with
      | box cs=>
        simp only[Ob.flat,Nm]at this;rintro⟨y,hy,hym⟩;exact X4g (by simp) (this y hy) hym
      |row e s rows=>exact id
      |mp l=>exact id
      |mat e e' s rows=>exact id
      |refs e ns=>cases this
      |mps e ms=>cases this
      |it l seen=>cases this
     exact ho n o hn
theorem eff_sort {objs objs':List (Nat×Ob)} {g:Operand->RV} {o:Oper} {r:RV} {q:Bool} (h:Eff P objs g o r objs' q) (hs:QV objs=true):QV objs'=true:=by
 cases h with
 |neutral _ _=>exact hs
 |alloc _ _ _=>exact Wc hs
 |read _ _=>exact hs
 |write _ h=>exact evW_sort h hs
 | call hc ho hdd hf hts hcon hown honly hflat=>
   rename_i x args ts d f tvs fresh ob own es;cases ob with
   |none=>exact hs
   |some o'=>exact Wc hs
theorem Xb9 {o:Oper} {s s1:HS} {d:Nat} (h:Stp P ops o s s1) (hd:QA o=true->o.dst≠some d) (hu:Wb d s=true):Wb d s1=true:=by
 obtain⟨hok,b,hg,⟨hb,rfl⟩|⟨hn,r,objs',q,st,fin,hw,he,rfl⟩⟩:=h
 .refine Xbh (X0a hu) (show QV s.objs=true from X3A hu) (fun k r hr=>?_) fun n o ho=>X04 hu n o ho;cases hdst:o.dst with
  |none=>rw[hdst]at hr;exact X0X hu hr
  | some e=>
    rw[hdst]at hr;rcases X0q hr with e|hr
    .cases e;exact id
    exact X0X hu hr
 obtain⟨h1,h2⟩:=eff_men he hd (fun x _=>(X28 hw (X1c hu x)).1) (X04 hu);refine Xbh (X0a hu) (eff_sort he (X3A hu)) (fun k r' hr=>?_) h2;cases hdst:o.dst with
 |none=>rw[hdst]at hr;exact X0X hu hr
 | some e=>
   rw[hdst]at hr;rcases X0q hr with e|hr
   .cases e;exact(X28 hw h1).2
   exact X0X hu hr
theorem X29 {objs objs':List (Nat×Ob)} {g g':Operand->RV} {o:Oper} {r:RV} {q:Bool} (hg:∀x∈XW o.op,g x=g' x) (h:Eff P objs g o r objs' q):Eff P objs g' o r objs' q:=by
 cases h with
 |neutral hc h=>exact .neutral hc (by rw[<-XbP hg];exact h)
 |alloc hc hd h=>exact .alloc hc hd (by rw[<-Xcw hg];exact h)
 |read hc h=>exact .read hc (by rw[<-XbZ hg];exact h)
 |write hc h=>exact .write hc (by rw[<-XbU hg];exact h)
 | call hc ho hd hf hts hcon hown honly hflat=>
   rename_i x args ts d f tvs fresh ob own es
   have hg':g x=g' x/\∀y∈args.toList,g y=g' y:=by
    rw[ho]at hg;exact⟨hg x (by simp[XW]),fun y hy=>hg y (by simp only[XW];exact NS _ hy)⟩
   refine .call hc ho hd (by rw[<-hg'.1];exact hf) (by rw[<-X5x _ hg'.2];exact hts) hcon ?_ honly hflat;rcases hown with h|h
   .exact .inl h
   refine .inr ?_;rw[<-h];congr 1;rw[Dk,List.any_eq_true,List.any_eq_true];constructor
   .rintro⟨y,hy,he⟩;exact⟨y,hy,by rw[hg'.2 y hy];exact he⟩
   rintro⟨y,hy,he⟩;exact⟨y,hy,by rw[<-hg'.2 y hy];exact he⟩
theorem X6I {objs:List (Nat×Ob)} {g:Operand->RV} {o:Oper} {d:Nat} {ob:Ob} (hc:Qj o.op=.write) (hmu:X1e o.op=false) (hs:QV objs=true) (hd:QA o=true->o.dst≠some d) (hm:∀x∈XW o.op,¬(g x).men d)
  (ho:∀n o,(n,o)∈objs->n≠d/\¬o.men d):evW P (ins d ob objs) g o.dst o.op=(evW P objs g o.dst o.op).map fun p=>(p.1,ins d ob p.2):=by
 have hdst:∀d',o.dst=some d'->d'≠d:=fun d' e e'=>hd (by simp[QA,hc]) (by rw[e,e']);cases hop:o.op with
 |store t x y=>rw[hop]at hm;exact Xcm hs (hm x (by simp[XW])) (hm y (by simp[XW]))
 |mapUpdate t m k v=>rw[hop]at hmu;cases hmu
 | call c=>
   obtain⟨callee,args,ts⟩:=c;rw[hop]at hc hm;cases callee with
   | builtin b=>
     cases b<;>simp[Qj]at hc
     exact XaO hs hdst ho fun x hx=>hm x (by simpa[XW]using hx)
   |value f=>simp[Qj]at hc
   |invoke f m=>simp[Qj]at hc
 |_=>rw[hop]at hc;simp[Qj]at hc
theorem X8a {objs:List (Nat×Ob)} {g:Operand->RV} {o:Oper} {r:RV} {d:Nat} {ob:Ob} {q:Bool} (hmu:X1e o.op=false) (hs:QV objs=true) (hd:QA o=true->o.dst≠some d) (hm:∀x∈XW o.op,¬(g x).men d)
  (hob:∀n o,(n,o)∈objs->n≠d/\¬o.men d):
  (∀objs',Eff P objs g o r objs' q->Eff P (ins d ob objs) g o r (ins d ob objs') q)/\
  (∀objs'',Eff P (ins d ob objs) g o r objs'' q->∃objs',Eff P objs g o r objs' q/\objs''=ins d ob objs'):=by
 have hargs:∀{x:Operand} {args:Array Operand} {ts:Array TypeId},o.op=.call {callee:=.value x,args:=args,argTypes:=ts}->¬(g x).men d/\∀y∈args.toList,¬(g y).men d:=by
  intro x args ts ho;rw[ho]at hm;exact⟨hm x (by simp[XW]),fun y hy=>hm y (by simp only[XW];exact NS _ hy)⟩
 constructor
 .intro objs' h;cases h with
  |neutral hc h=>exact .neutral hc h
  | alloc hc hdd h=>
    rename_i d' ob';have hne:d'≠d:=fun e=>hd (by simp[QA,hc]) (by rw[hdd,e]);rw[<-Wd hne];exact .alloc hc hdd h
  |read hc h=>exact .read hc (by rw[X7u hm];exact h)
  | write hc h=>
    refine .write hc ?_;rw[X6I hc hmu hs hd hm hob,h];rfl
  | call hc ho hdd hf hts hcon hown honly hflat=>
    rename_i x args ts d' f tvs fresh ob' own es;have hne:d'≠d:=fun e=>hd (by simp[QA,hc]) (by rw[hdd,e])
    have:ins d ob (X3o d' ob' objs)=X3o d' ob' (ins d ob objs):=by
     cases ob' with
     |none=>rfl
     |some o'=>exact(Wd hne _ _ _).symm
    rw[this];exact .call hc ho hdd (by rw[X3N hob (hargs ho).1];exact hf) (by rw[X6g hob (hargs ho).2];exact hts) hcon hown honly hflat
 intro objs'' h;cases h with
 |neutral hc h=>exact⟨objs,.neutral hc h,rfl⟩
 | alloc hc hdd h=>
   rename_i d' ob';have hne:d'≠d:=fun e=>hd (by simp[QA,hc]) (by rw[hdd,e]);exact⟨_,.alloc hc hdd h,Wd hne _ _ _⟩
 |read hc h=>exact⟨objs,.read hc (by rw[<-X7u hm];exact h),rfl⟩
 | write hc h=>
   rw[X6I hc hmu hs hd hm hob]at h;simp only[N8]at h;obtain⟨⟨r',objs'⟩,h1,h2⟩:=h;cases h2;exact⟨objs',.write hc h1,rfl⟩
 | call hc ho hdd hf hts hcon hown honly hflat=>
   rename_i x args ts d' f tvs fresh ob' own es;have hne:d'≠d:=fun e=>hd (by simp[QA,hc]) (by rw[hdd,e]);refine⟨X3o d' ob' objs,.call hc ho hdd (by rw[<-X3N hob (hargs ho).1];exact hf) (by rw[<-X6g hob (hargs ho).2];exact hts) hcon hown honly hflat,?_⟩;cases ob' with
   |none=>rfl
   |some o'=>exact Wd hne _ _ _
end
section
variable {P:Program} {ops:Array Oper}
def lkpN (hs:List (Nat×Nat)) (k:Nat):Option Nat:=
 match lkp hs k with
 |some n=>if n=2000000 then none else some n
 |none=>none
def Qy (hs:List (Nat×Nat)) (o:Oper):Option (Nat×Nat):=
 match o.op with
 | .load _ (.tmp k)=>(lkpN hs k).map fun n=>(k,n)
 | .store _ (.tmp k) _=>(lkpN hs k).map fun n=>(k,n)
 |_=>none
def dataX (hs:List (Nat×Nat)) (x:Operand):Bool:=
 match x with
 | .tmp k=>lkp hs k==some 2000000
 |_=>false
def XaL (op:Op):Bool:=
 match Qj op with
 | .read=>true
 |_=>false
def X4U (hs:List (Nat×Nat)) (o:Oper):Bool:= !hs.isEmpty&&(XaL o.op&&(XW o.op).all (dataX hs))
def HokD (hs:List (Nat×Nat)) (o:Oper) (g:Operand->RV):Prop:=X4U hs o=true->∀x∈XW o.op,∀n,¬(g x).men n
def Hok (hs:List (Nat×Nat)) (o:Oper) (g:Operand->RV):Prop:=∀k n,Qy hs o=some (k,n)->∃off,g (.tmp k)=.v (.one (.at_ n off))
def X2y:Op->Bool
 | .load _ _=>true
 |_=>false
def X0p:Op->Bool
 | .store _ _ _=>true
 |_=>false
def swB (hs:List (Nat×Nat)) (a b:Oper):Bool:=
 match Qy hs a,Qy hs b with
 |some (_,n),some (_,m)=>n !=m&&((X2y a.op&&X0p b.op)||(X0p a.op&&X2y b.op))
 |some _,none=>X2y a.op&&X3E b.op
 |none,some _=>X3E a.op&&X2y b.op
 |_,_=>false
def pairH (hs:List (Nat×Nat)) (a b:Oper):Bool:=X0V a b||swB hs a b
def dsB (hs:List (Nat×Nat)) (a b:Oper):Bool:=(X4U hs a&&X0p b.op)||(X0p a.op&&X4U hs b)
def X2F (hs:List (Nat×Nat)) (ops:Array Oper) (a b:Oper):Bool:=
 !WM a.dst b.dst&& !X6R a.dst (X4J ops b)&& !X6R b.dst (X4J ops a)&&(pairH hs a b||dsB hs a b)
theorem X91 {O:List (Nat×Ob)} {g:Operand->RV} {t:TypeId} {x:Operand} {r:RV} {n off:Nat} (h:evR P O g (.load t x)=some r) (hg:g x=.v (.one (.at_ n off))):∃cs,lkp O n=some (.box cs):=by
 simp only[evR,hg]at h;split at h
 .rename_i h1 h2;cases h2;split at h
  .rename_i cs hl;exact⟨cs,hl⟩
  cases h
 .rename_i h1 h2;cases h2
 .rename_i h1 h2;cases h2
 .rename_i h1 h2;cases h2
 cases h
theorem X4N {T:Type} {n m:Nat} {l:List (Nat×T)} (h:m≠n):lkp (del n l) m=lkp l m:=by rw[X0h,N7 h]
theorem X5l {O O' : List (Nat×Ob)} {g:Operand->RV} {dst:Option Nat} {op:Op} {r:RV} (ha:X3E op=true) (h:evW P O g dst op=some (r,O')) (n:Nat):
  (∀cs,(∀d,dst=some d->d≠n)->lkp O n=some (.box cs)->lkp O' n=lkp O n)/\(∀cs,lkp O' n=some (.box cs)->lkp O' n=lkp O n):=by
 cases op with
 | call c =>
   obtain⟨callee,args,ts⟩:=c;cases callee with
   | builtin b =>
     cases b<;>simp only[X3E]at ha<;>try cases ha
     simp only[evW]at h;cases dst with
     |none=>cases h
     | some d =>
       have fin:∀(X:Ob) (l:List (Nat×Ob)),(∀cs,X≠ .box cs)->(∀cs,lkp O n=some (.box cs)->lkp l n=lkp O n)->(∀cs,lkp l n=some (.box cs)->lkp l n=lkp O n)->O'=ins d X l->
         (∀cs,(∀d',some d=some d'->d'≠n)->lkp O n=some (.box cs)->lkp O' n=lkp O n)/\(∀cs,lkp O' n=some (.box cs)->lkp O' n=lkp O n):=by
        intro X l hX h1 h2 hO;subst hO;refine⟨fun cs hd hn=>?_,fun cs hn=>?_⟩
        .rw[Xz (Ne.symm (hd d rfl))];exact h1 cs hn
        rw[XQ]at hn⊢;split
        .rename_i e;rw[Na e]at hn;cases hn;exact absurd rfl (hX cs)
        rename_i e;rw[N7 e]at hn;exact h2 cs hn
       have hdel:∀(m:Nat) (l:List (Nat×Ob)),(∀cs,lkp l m≠some (.box cs))->(∀cs,lkp l n=some (.box cs)->lkp (del m l) n=lkp l n)/\(∀cs,lkp (del m l) n=some (.box cs)->lkp (del m l) n=lkp l n):=by
        intro m l hm;refine⟨fun cs hn=>X4N fun e=>?_,fun cs hn=>X4N fun e=>?_⟩
        .subst e;exact hm cs hn
        subst e;rw[X0h,Na rfl]at hn;cases hn
       split at h
       .rename_i heq _ _ _ _;cases heq;split at h
        .split at h
         .split at h
          .split at h
           .rename_i O2 hmat;cases h;unfold Zj at hmat;split at hmat
            .rename_i m _;split at hmat
             .rename_i hl;split at hmat
              .split at hmat
               .rename_i q _;split at hmat
                .rename_i hr;split at hmat
                 .rename_i hc;cases hmat;have d1:=hdel m O (fun cs e=>by rw[hl]at e;cases e)
                  have hq:∀cs,lkp (del m O) q≠some (.box cs):=by
                   intro cs e;rw[X0h]at e;split at e
                   .cases e
                   rw[hr]at e;cases e
                  have d2:=hdel q (del m O) hq;refine fin _ _ (by simp) (fun cs hn=>?_) (fun cs hn=>?_) rfl
                  .have e1:=d1.1 cs hn;exact(d2.1 cs (e1.trans hn)).trans e1
                  have e2:=d2.2 cs hn;exact e2.trans (d1.2 cs (e2.symm.trans hn))
                 cases hmat
                cases hmat
               cases hmat
              cases hmat
             cases hmat
            cases hmat
           split at h
           .rename_i m rows more hb hm;split at h
            .cases h;cases m with
             |none=>exact fin _ O (by simp) (fun _ _=>rfl) (fun _ _=>rfl) rfl
             | some m=>
               have hml:∀cs,lkp O m≠some (.box cs):=by
                intro cs e;unfold WU at hb;split at hb
                .cases hb
                .split at hb
                 .rename_i hl;split at hb
                  .cases hb;rw[hl]at e;cases e
                  cases hb
                 cases hb
                cases hb
               have d1:=hdel m O hml;exact fin _ _ (by simp) d1.1 d1.2 rfl
            cases h
           cases h
          cases h
         cases h
        cases h
       cases h
   |_=>simp[X3E]at ha
 |_=>simp[X3E]at ha
theorem X71 {O O':List (Nat×Ob)} {g:Operand->RV} {dst:Option Nat} {t:TypeId} {x y:Operand} {r:RV} {m off:Nat} (h:evW P O g dst (.store t x y)=some (r,O')) (hg:g x=.v (.one (.at_ m off))) {n:Nat} (hne:m≠n):
  lkp O' n=lkp O n:=by
 simp only[evW,hg]at h;split at h
 .rename_i h1;cases h1;split at h
  .split at h
   .split at h
    .cases h;exact Xz (Ne.symm hne) _ _
    cases h
   cases h
  cases h
 .rename_i h1;cases h1
 .rename_i h1;cases h1
 cases h
theorem eff_swap {hs:List (Nat×Nat)} {O Oj Oij:List (Nat×Ob)} {gj gi:Operand->RV} {j i:Oper} {rj ri:RV} {qj qi:Bool} (hp:pairH hs j i=true) (hdst:WM j.dst i.dst=false) (hj:Eff P O gj j rj Oj qj) (hi:Eff P Oj gi i ri Oij qi)
  (nj:QA j=true->∀d,j.dst=some d->(∀x,¬(gi x).men d)/\QV O=true/\∀n o,(n,o)∈O->n≠d/\¬o.men d) (ni:QA i=true->∀d,i.dst=some d->(∀x,¬(gj x).men d)/\QV O=true/\∀n o,(n,o)∈O->n≠d/\¬o.men d)
  (hHj:Hok hs j gj) (hHi:Hok hs i gi):
  ∃Oi,Eff P O gi i ri Oi qi/\Eff P Oi gj j rj Oij qj:=by
 have hne:∀a b,j.dst=some a->i.dst=some b->a≠b:=by
  intro a b ha hb e;subst e;simp[WM,ha,hb]at hdst
 have hmu:∀o:Oper,(Qj o.op=.alloc\/Qj o.op=.read\/Qj o.op=.call)->X1e o.op=false:=by
  intro o ho;cases h:o.op with
  |mapUpdate t m k v=>rw[h]at ho;simp[Qj]at ho
  |_=>rfl
 -- 'j' makes an object, 'i' looks past it
 have A:∀(d:Nat) (ob:Ob),Qj j.op=.alloc->j.dst=some d->evA P gj d j.op=some (rj,some ob)->qj=false->Oj=ins d ob O->X1e i.op=false->∃Oi,Eff P O gi i ri Oi qi/\Eff P Oi gj j rj Oij qj:=by
  intro d ob hc hd h hq hO ha;subst hO;subst hq;obtain⟨n1,n2,n3⟩:=nj (by simp[QA,hc]) d hd;obtain⟨Oi,h1,rfl⟩:=(X8a (P:=P) (objs:=O) (g:=gi) (o:=i) (r:=ri) (q:=qi) (d:=d) (ob:=ob) ha n2 (fun _ e=>hne d d hd e rfl) (fun x _=>n1 x) n3).2 _ hi;exact⟨Oi,h1,.alloc hc hd h⟩
 have Bq:Qj i.op=.alloc->X1e j.op=false->∃Oi,Eff P O gi i ri Oi qi/\Eff P Oi gj j rj Oij qj:=by
  intro hc ha;cases hi with
  | alloc hc' hd h=>
    rename_i d ob;obtain⟨n1,n2,n3⟩:=ni (by simp[QA,hc]) d hd;exact⟨_,.alloc hc' hd h,(X8a (P:=P) (objs:=O) (g:=gj) (o:=j) (r:=rj) (q:=qj) (d:=d) (ob:=ob) ha n2 (fun _ e=>hne d d e hd rfl) (fun x _=>n1 x) n3).1 _ hj⟩
  |neutral h=>rw[hc]at h;cases h
  |read h=>rw[hc]at h;cases h
  |write h=>rw[hc]at h;cases h
  |call h=>rw[hc]at h;cases h
 have nopair:X0V j i=false->swB hs j i=true:=by
  intro h;unfold pairH at hp;rw[h]at hp;simpa using hp
 have hcl:∀o:Oper,X2y o.op=true->∃t x,o.op=.load t x:=by
  intro o h;cases ho:o.op with
  |load t x=>exact⟨t,x,rfl⟩
  |_=>rw[ho]at h;cases h
 have hcs:∀o:Oper,X0p o.op=true->∃t x y,o.op=.store t x y:=by
  intro o h;cases ho:o.op with
  |store t x y=>exact⟨t,x,y,rfl⟩
  |_=>rw[ho]at h;cases h
 have hld:∀(o:Oper) (g:Operand->RV) (k n:Nat),Hok hs o g->Qy hs o=some (k,n)->X2y o.op=true->∃t off,o.op=.load t (.tmp k)/\g (.tmp k)=.v (.one (.at_ n off)):=by
  intro o g k n hH hh hl;obtain⟨off,hg⟩:=hH k n hh;obtain⟨t,x,ho⟩:=hcl o hl;unfold Qy at hh;rw[ho]at hh;cases x with
  | tmp k'=>
    simp only[N8]at hh;obtain⟨n',_,e⟩:=hh;cases e;exact⟨t,off,ho,hg⟩
  |_=>cases hh
 have hst:∀(o:Oper) (g:Operand->RV) (k n:Nat),Hok hs o g->Qy hs o=some (k,n)->X0p o.op=true->∃t y off,o.op=.store t (.tmp k) y/\g (.tmp k)=.v (.one (.at_ n off)):=by
  intro o g k n hH hh hl;obtain⟨off,hg⟩:=hH k n hh;obtain⟨t,x,y,ho⟩:=hcs o hl;unfold Qy at hh;rw[ho]at hh;cases x with
  | tmp k'=>
    simp only[N8]at hh;obtain⟨n',_,e⟩:=hh;cases e;exact⟨t,y,off,ho,hg⟩
  |_=>cases hh
 have clsL:∀o:Oper,X2y o.op=true->Qj o.op=.read:=by intro o h;obtain⟨t,x,ho⟩:=hcl o h;rw[ho];rfl
 have clsS:∀o:Oper,X0p o.op=true->Qj o.op=.write:=by intro o h;obtain⟨t,x,y,ho⟩:=hcs o h;rw[ho];rfl
 -- a block is read, another thing is written
 have rw1:Qj j.op=.read->Qj i.op=.write->swB hs j i=true->evR P O gj j.op=some rj->evW P O gi i.dst i.op=some (ri,Oij)->evR P Oij gj j.op=some rj:=by
  intro hcj hci hsw hr hw;unfold swB at hsw
  have fin:∀t k n off,j.op=.load t (.tmp k)->gj (.tmp k)=.v (.one (.at_ n off))->lkp Oij n=lkp O n->evR P Oij gj j.op=some rj:=by
   intro t k n off hop hg hl;rw[<-hr,hop];refine X39 fun x hx m hm=>?_;simp only[XW,Nk]at hx;subst hx;rw[hg]at hm;cases(show n=m from hm);exact hl
  split at hsw
  .rename_i k n k' m hhj hhi;simp only[N4,bne_iff_ne,Nl]at hsw;obtain⟨hnm,h|h⟩:=hsw
   .obtain⟨t,off,hop,hg⟩:=hld j gj k n hHj hhj h.1;obtain⟨t',y,off',hop',hg'⟩:=hst i gi k' m hHi hhi h.2;rw[hop']at hw;exact fin t k n off hop hg (X71 hw hg' (Ne.symm hnm))
   rw[clsL i h.2]at hci;cases hci
  .rename_i q hhj hhi;obtain⟨k,n⟩:=q;simp only[N4]at hsw;obtain⟨t,off,hop,hg⟩:=hld j gj k n hHj hhj hsw.1;rw[hop]at hr;obtain⟨cs,hbox⟩:=X91 hr hg;rw[<-hop]at hr;refine fin t k n off hop hg ((X5l hsw.2 hw n).1 cs (fun d hd e=>?_) hbox);have hn:QA i=true:=by simp[QA,hci]
   have:=(ni hn d hd).1 (.tmp k);rw[hg]at this;exact this e.symm
  .simp only[N4]at hsw;rename_i q hhj hhi;rw[clsL i hsw.2]at hci;cases hci
  cases hsw
 have wr1:Qj j.op=.write->Qj i.op=.read->swB hs j i=true->evW P O gj j.dst j.op=some (rj,Oj)->evR P Oj gi i.op=some ri->evR P O gi i.op=some ri:=by
  intro hcj hci hsw hw hr;unfold swB at hsw
  have fin:∀t k n off,i.op=.load t (.tmp k)->gi (.tmp k)=.v (.one (.at_ n off))->lkp O n=lkp Oj n->evR P O gi i.op=some ri:=by
   intro t k n off hop hg hl;rw[<-hr,hop];refine X39 fun x hx m hm=>?_;simp only[XW,Nk]at hx;subst hx;rw[hg]at hm;cases(show n=m from hm);exact hl
  split at hsw
  .rename_i k n k' m hhj hhi;simp only[N4,bne_iff_ne,Nl]at hsw;obtain⟨hnm,h|h⟩:=hsw
   .rw[clsL j h.1]at hcj;cases hcj
   obtain⟨t,off,hop,hg⟩:=hld i gi k' m hHi hhi h.2;obtain⟨t',y,off',hop',hg'⟩:=hst j gj k n hHj hhj h.1;rw[hop']at hw;exact fin t k' m off hop hg (X71 hw hg' hnm).symm
  .simp only[N4]at hsw;rename_i q hhj hhi;rw[clsL j hsw.1]at hcj;cases hcj
  .rename_i q hhj hhi;obtain⟨k,n⟩:=q;simp only[N4]at hsw;obtain⟨t,off,hop,hg⟩:=hld i gi k n hHi hhi hsw.2;rw[hop]at hr;obtain⟨cs,hbox⟩:=X91 hr hg;rw[<-hop]at hr;exact fin t k n off hop hg ((X5l hsw.1 hw n).2 cs hbox).symm
  cases hsw
 cases hj with
 |neutral hc h=>exact⟨Oij,hi,.neutral hc h⟩
 | alloc hc hd h=>
   cases hi with
   |neutral hc' h'=>exact⟨O,.neutral hc' h',.alloc hc hd h⟩
   |alloc hc' hd' h'=>exact A _ _ hc hd h rfl rfl (hmu i (by simp[hc']))
   |read hc' h'=>exact A _ _ hc hd h rfl rfl (hmu i (by simp[hc']))
   |call hc' ho hd' hf hts hcon hown honly hflat=>exact A _ _ hc hd h rfl rfl (hmu i (by simp[hc']))
   | write hc' h'=>
     refine A _ _ hc hd h rfl rfl ?_;cases hb:X0V j i with
     |true=>simpa only[X0V,hc,hc',Nw]using hb
     | false=>
       have:=nopair hb;cases hm:X1e i.op with
       |false=>rfl
       | true=>
         simp only[X0V,hc,hc',hm]at hb
         have hh:Qy hs i=none:=by
          unfold Qy;cases ho:i.op with
          |mapUpdate t m k v=>rfl
          |_=>first|rfl|(rw[ho]at hm;cases hm)
         have hia:X3E i.op=false:=by
          cases ho:i.op with
          |mapUpdate t m k v=>rfl
          |_=>first|rfl|(rw[ho]at hm;cases hm)
         unfold swB at this;rw[hh]at this;split at this
         .rename_i h1;cases h1
         .rw[hia]at this;simp at this
         .rename_i h1;cases h1
         cases this
 | read hc h=>
   have hia:=hmu j (by simp[hc]);cases hi with
   |neutral hc' h'=>exact⟨_,.neutral hc' h',.read hc h⟩
   |alloc hc' hd' h'=>exact Bq hc' hia
   |read hc' h'=>exact⟨_,.read hc' h',.read hc h⟩
   | call hc' ho hd' hf hts hcon hown honly hflat=>
     rename_i x args ts d f tvs fresh ob own es;refine⟨_,.call hc' ho hd' hf hts hcon hown honly hflat,?_⟩;cases ob with
     |none=>exact .read hc h
     | some o'=>
       obtain⟨n1,n2,n3⟩:=ni (by simp[QA,hc']) d hd';exact(X8a (P:=P) (objs:=O) (g:=gj) (o:=j) (r:=rj) (q:=true) (d:=d) (ob:=o') hia n2 (fun _ e=>hne d d e hd' rfl) (fun x _=>n1 x) n3).1 _ (.read hc h)
   | write hc' h'=>
     have hsw:=nopair (by simp[X0V,hc,hc']);exact⟨_,.write hc' h',.read hc (rw1 hc hc' hsw h h')⟩
 | write hc h=>
   cases hi with
   |neutral hc' h'=>exact⟨_,.neutral hc' h',.write hc h⟩
   | alloc hc' hd' h'=>
     refine Bq hc' ?_;cases hb:X0V j i with
     |true=>simpa only[X0V,hc,hc',Nw]using hb
     | false=>
       have:=nopair hb;cases hm:X1e j.op with
       |false=>rfl
       | true=>
         have hh:Qy hs j=none:=by
          unfold Qy;cases ho:j.op with
          |mapUpdate t m k v=>rfl
          |_=>first|rfl|(rw[ho]at hm;cases hm)
         have hia:X3E j.op=false:=by
          cases ho:j.op with
          |mapUpdate t m k v=>rfl
          |_=>first|rfl|(rw[ho]at hm;cases hm)
         unfold swB at this;rw[hh]at this;split at this
         .rename_i h1 _;cases h1
         .rename_i h1 _;cases h1
         .rw[hia]at this;simp at this
         cases this
   | read hc' h'=>
     have hsw:=nopair (by simp[X0V,hc,hc']);exact⟨_,.read hc' (wr1 hc hc' hsw h h'),.write hc h⟩
   | write hc' h'=>
     have hsw:=nopair (by simp[X0V,hc,hc']);exfalso;unfold swB at hsw;split at hsw
     .simp only[N4,Nl]at hsw;rcases hsw.2 with h|h
      .rw[clsL j h.1]at hc;cases hc
      rw[clsL i h.2]at hc';cases hc'
     .simp only[N4]at hsw;rw[clsL j hsw.1]at hc;cases hc
     .simp only[N4]at hsw;rw[clsL i hsw.2]at hc';cases hc'
     cases hsw
   | call hc' ho hd' hf hts hcon hown honly hflat=>
     have hsw:=nopair (by simp[X0V,hc,hc']);exfalso;unfold swB at hsw;have hop:Qy hs i=none:=by unfold Qy;rw[ho]
     rw[hop]at hsw;split at hsw
     .rename_i h1;cases h1
     .simp only[N4]at hsw;rw[clsL j hsw.1]at hc;cases hc
     .rename_i h1;cases h1
     cases hsw
 | call hc ho hd hf hts hcon hown honly hflat=>
   rename_i x args ts d f tvs fresh ob own es;have hia:=hmu j (by simp[hc]);have hj:Eff P O gj j rj (X3o d ob O) ob.isNone:=.call hc ho hd hf hts hcon hown honly hflat;have hoj:Qy hs j=none:=by unfold Qy;rw[ho]
   have haj:X3E j.op=false:=by rw[ho];rfl
   have noj:∀o:Oper,swB hs j o=true->False:=by
    intro o hsw;unfold swB at hsw;rw[hoj]at hsw;split at hsw
    .rename_i h1 _;cases h1
    .rename_i h1 _;cases h1
    .rw[haj]at hsw;simp at hsw
    cases hsw
   cases hi with
   |neutral hc' h'=>exact⟨O,.neutral hc' h',hj⟩
   |alloc hc' hd' h'=>exact Bq hc' hia
   | read hc' h'=>
     refine⟨O,?_,hj⟩;cases ob with
     |none=>exact .read hc' h'
     | some o'=>
       have:=X7u (P:=P) (g:=gi) (d:=d) (ob:=o') (objs:=O) (op:=i.op) fun x _=>(nj (by simp[QA,hc]) d hd).1 x;refine .read hc' ?_;rw[<-this];exact h'
   |write hc' h'=>exact(noj i (nopair (by simp[X0V,hc,hc']))).elim
   |call hc' ho' hd' hf' hts' hcon' hown' honly' hflat'=>exact(noj i (nopair (by simp[X0V,hc,hc']))).elim
theorem Xc1 {hs:List (Nat×Nat)} {O Oj Oij:List (Nat×Ob)} {gj gi:Operand->RV} {j i:Oper} {rj ri:RV} {qj qi:Bool} (hp:(pairH hs j i||dsB hs j i)=true) (hdst:WM j.dst i.dst=false) (hj:Eff P O gj j rj Oj qj) (hi:Eff P Oj gi i ri Oij qi)
  (nj:QA j=true->∀d,j.dst=some d->(∀x,¬(gi x).men d)/\QV O=true/\∀n o,(n,o)∈O->n≠d/\¬o.men d) (ni:QA i=true->∀d,i.dst=some d->(∀x,¬(gj x).men d)/\QV O=true/\∀n o,(n,o)∈O->n≠d/\¬o.men d)
  (hHj:Hok hs j gj) (hHi:Hok hs i gi) (hDj:HokD hs j gj) (hDi:HokD hs i gi):
  ∃Oi,Eff P O gi i ri Oi qi/\Eff P Oi gj j rj Oij qj:=by
 rw[Nl]at hp;rcases hp with hp|hp
 .exact eff_swap hp hdst hj hi nj ni hHj hHi
 have hrd:∀o:Oper,X4U hs o=true->Qj o.op=.read:=by
  intro o h;simp only[X4U,N4]at h;have h:=h.2.1;unfold XaL at h;split at h
  .assumption
  cases h
 have hwr:∀o:Oper,X0p o.op=true->Qj o.op=.write:=by
  intro o h;cases ho:o.op with
  |store t x y=>rfl
  |_=>rw[ho]at h;cases h
 simp only[dsB,Nl,N4]at hp;rcases hp with⟨hd,hst⟩|⟨hst,hd⟩
 .have e1:=hrd j hd;have e2:=hwr i hst;cases hj with
  |neutral hc h=>rw[e1]at hc;cases hc
  |alloc hc=>rw[e1]at hc;cases hc
  |write hc=>rw[e1]at hc;cases hc
  |call hc=>rw[e1]at hc;cases hc
  | read hc h=>
    cases hi with
    |neutral hc'=>rw[e2]at hc';cases hc'
    |alloc hc'=>rw[e2]at hc';cases hc'
    |read hc'=>rw[e2]at hc';cases hc'
    |call hc'=>rw[e2]at hc';cases hc'
    | write hc' h'=>
      exact⟨_,.write hc' h',.read hc (by rw[X39 (fun x hx n hn=>absurd hn (hDj hd x hx n))];exact h)⟩
 have e1:=hwr j hst;have e2:=hrd i hd;cases hj with
 |neutral hc h=>rw[e1]at hc;cases hc
 |alloc hc=>rw[e1]at hc;cases hc
 |read hc=>rw[e1]at hc;cases hc
 |call hc=>rw[e1]at hc;cases hc
 | write hc h=>
   cases hi with
   |neutral hc'=>rw[e2]at hc';cases hc'
   |alloc hc'=>rw[e2]at hc';cases hc'
   |write hc'=>rw[e2]at hc';cases hc'
   |call hc'=>rw[e2]at hc';cases hc'
   | read hc' h'=>
     exact⟨_,.read hc' (by rw[<-X39 (fun x hx n hn=>absurd hn (hDi hd x hx n))];exact h'),.write hc h⟩
theorem ZI {o:Oper} {dst:Option Nat} {r:RV} {regs:List (Nat×RV)} (h:X6R dst (X4J ops o)=false):∀x∈XW o.op,opd (WR dst r regs) x=opd regs x:=by
 cases dst with
 |none=>exact fun _ _=>rfl
 | some d=>
   refine opd_ins ?_;intro hm;simp only[X6R,X4J]at h;have:(Xb0 ops o++X2H (XW o.op)).contains d=true:=by simp[hm]
   rw[this]at h;cases h
theorem X4j {o:Oper} {dst:Option Nat} {r:RV} {s:HS} {objs:List (Nat×Ob)} (h:X6R dst (X4J ops o)=false):Zi ops o {s with regs:=WR dst r s.regs,objs:=objs}=Zi ops o s:=by
 cases dst with
 |none=>rfl
 | some d=>
   unfold Zi;cases hg:o.guard with
   |none=>rfl
   | some p=>
     obtain⟨k,want⟩:=p;simp only;cases hd:(ops[k]?).bind (·.dst)with
     |none=>rfl
     | some e=>
       simp only
       have:e≠d:=by
        rintro rfl;simp only[X6R,X4J,Xb0,hg,hd]at h;simp at h
       simp only[WR];rw[Xz this]
theorem XcO {a b:Option Nat} (h:WM a b=false) (x y:RV) (l:List (Nat×RV)):WR a x (WR b y l)=WR b y (WR a x l):=by
 cases a with
 |none=>rfl
 | some a=>
   cases b with
   |none=>rfl
   | some b=>
     refine Wd ?_ x y l;rintro rfl;simp[WM]at h
theorem X7L (a b:Option Nat):WM a b=WM b a:=by
 cases a<;>cases b<;>simp[WM,Bool.beq_comm]
def isAt (n:Nat) (r:RV):Prop:=∃off,r=.v (.one (.at_ n off))\/∃b,r=.v (.one (.gd b (.at_ n off)))
def HokW (hs:List (Nat×Nat)) (o:Oper) (g:Operand->RV):Prop:=∀k n,Qy hs o=some (k,n)->isAt n (g (.tmp k))
def HokS (hs:List (Nat×Nat)) (o:Oper) (s:HS):Prop:=HokW hs o (opd s.regs)/\HokD hs o (opd s.regs)
theorem Xbf {hs:List (Nat×Nat)} {o:Oper} {s:HS} (h:HokW hs o (opd s.regs)) {b q:Bool} {st fin:RV->RV} (hw:Way b q st fin):HokW hs o (fun x=>st (opd s.regs x)):=by
 intro k n hh;obtain⟨off,hg⟩:=h k n hh;refine⟨off,?_⟩;rcases hw with⟨_,rfl,_⟩|⟨_,rfl,_⟩
 .exact hg
 rcases hg with hg|⟨b',hg⟩
 .simp only[hg];exact .inl rfl
 simp only[hg,ZK,ungd];split
 .exact .inl rfl
 exact .inr ⟨_,rfl⟩
theorem X5R {hs:List (Nat×Nat)} {o:Oper} {g:Operand->RV} {O O':List (Nat×Ob)} {r:RV} {q:Bool} (h:HokW hs o g) (he:Eff P O g o r O' q):Hok hs o g:=by
 intro k n hh;obtain⟨off,hg|⟨b,hg⟩⟩:=h k n hh
 .exact⟨off,hg⟩
 exfalso;unfold Qy at hh;split at hh
 .rename_i t k' ho;simp only[N8]at hh;obtain⟨_,_,e⟩:=hh;cases e;cases he with
  |neutral hc=>rw[ho]at hc;cases hc
  |alloc hc=>rw[ho]at hc;cases hc
  |read hc h=>rw[ho]at h;simp only[evR,hg]at h;split at h<;>simp_all
  |write hc=>rw[ho]at hc;cases hc
  |call hc=>rw[ho]at hc;cases hc
 .rename_i t k' y ho;simp only[N8]at hh;obtain⟨_,_,e⟩:=hh;cases e;cases he with
  |neutral hc=>rw[ho]at hc;cases hc
  |alloc hc=>rw[ho]at hc;cases hc
  |read hc=>rw[ho]at hc;cases hc
  |write hc h=>rw[ho]at h;simp only[evW,hg]at h;split at h<;>simp_all
  |call hc=>rw[ho]at hc;cases hc
 cases hh
theorem X6b {hs:List (Nat×Nat)} {o:Oper} {k n:Nat} (h:Qy hs o=some (k,n)):Operand.tmp k∈XW o.op:=by
 unfold Qy at h;split at h
 .rename_i ho;simp only[N8]at h;obtain⟨_,_,e⟩:=h;cases e;rw[ho];simp[XW]
 .rename_i ho;simp only[N8]at h;obtain⟨_,_,e⟩:=h;cases e;rw[ho];simp[XW]
 cases h
theorem stp_swap {hs:List (Nat×Nat)} {j i:Oper} {s s1 s2:HS} (hx:X2F hs ops j i=true) (hj:Stp P ops j s s1) (hi:Stp P ops i s1 s2) (nj:W8 s j) (ni:W8 s i) (hHj:HokS hs j s) (hHi:HokS hs i s1):∃s1',Stp P ops i s s1'/\Stp P ops j s1' s2/\HokS hs i s/\HokS hs j s1':=by
 simp only[X2F,N4,Nw]at hx;obtain⟨⟨⟨hdst,hji⟩,hij⟩,hp⟩:=hx
 have hHi':HokS hs i s:=by
  refine⟨fun k n hh=>?_,fun hd x hx n=>?_⟩
  .have hg:=hHi.1 k n hh;obtain⟨_,_,_,⟨_,rfl⟩|⟨_,_,_,_,_,_,_,_,rfl⟩⟩:=hj
   .rw[<-ZI hji _ (X6b hh)];exact hg
   rw[<-ZI hji _ (X6b hh)];exact hg
  have hg:=hHi.2 hd x hx n;obtain⟨_,_,_,⟨_,rfl⟩|⟨_,_,_,_,_,_,_,_,rfl⟩⟩:=hj
  .rw[<-ZI hji _ hx];exact hg
  rw[<-ZI hji _ hx];exact hg
 have hHj':∀(r:RV) (objs:List (Nat×Ob)),HokS hs j {s with regs:=WR i.dst r s.regs,objs:=objs}:=by
  intro r objs;refine⟨fun k n hh=>?_,fun hd x hx n=>?_⟩
  .have hg:=hHj.1 k n hh;rw[ZI hij _ (X6b hh)];exact hg
  have hg:=hHj.2 hd x hx n;rw[ZI hij _ hx];exact hg
 have hj0:=hj;obtain⟨hokj,bj,hgj,hj⟩:=hj;obtain⟨hoki,bi,hgi,hi⟩:=hi
 -- names stay free Wi the other's step
 have keep:∀(a b:Oper) (t t1:HS),WM a.dst b.dst=false->Stp P ops b t t1->W8 t a->W8 t1 a:=by
  intro a b t t1 hs hst hn hna d hd;refine Xb9 hst (fun _ e=>?_) (hn hna d hd);simp[WM,hd,e]at hs
 have nsz:s1.nt=s.nt:=by
  rcases hj with⟨_,rfl⟩|⟨_,_,_,_,_,_,_,_,rfl⟩<;>rfl
 have hoki':XP s i.dst=true:=by
  unfold XP at*;cases hd:i.dst with
  |none=>rfl
  |some d=>rw[hd]at hoki;simp only at hoki⊢;rw[<-nsz];exact hoki
 have fin:∀(t:HS),t.nt=s.nt->XP t j.dst=true:=by
  intro t ht;unfold XP at*;cases hd:j.dst with
  |none=>rfl
  |some d=>rw[hd]at hokj;simp only at hokj⊢;rw[ht];exact hokj
 have comm:∀x y l,WR i.dst x (WR j.dst y l)=WR j.dst y (WR i.dst x l):=fun x y l=>XcO (by rw[X7L];exact hdst) x y l;have asObjs:∀(r:List (Nat×RV)),({s with regs:=r}:HS)={s with regs:=r,objs:=s.objs}:=fun _=>rfl;rcases hj with⟨hbj,rfl⟩|⟨hnj,rj,Oj,qj,stj,fj,hwj,hej,rfl⟩
 .rw[asObjs,X4j hji]at hgi;rcases hi with⟨hbi,rfl⟩|⟨hni,ri,Oij,qi,sti,fi,hwi,hei,rfl⟩
  .refine⟨_,⟨hoki',bi,hgi,.inl ⟨hbi,rfl⟩⟩,⟨fin _ rfl,bj,?_,.inl ⟨hbj,?_⟩⟩,hHi',hHj' _ _⟩
   .rw[asObjs,X4j hij];exact hgj
   simp only;rw[comm]
  refine⟨_,⟨hoki',bi,hgi,.inr ⟨ni,ri,Oij,qi,sti,fi,hwi,X29 (fun x hx=>congrArg sti (ZI hji x hx)) hei,rfl⟩⟩,⟨fin _ rfl,bj,?_,.inl ⟨hbj,?_⟩⟩,hHi',hHj' _ _⟩
  .rw[X4j hij];exact hgj
  simp only;rw[comm]
 rw[X4j hji]at hgi;rcases hi with⟨hbi,rfl⟩|⟨hni,ri,Oij,qi,sti,fi,hwi,hei,rfl⟩
 .have h1:Stp P ops i s {s with regs:=WR i.dst (.v (.one .any)) s.regs}:=⟨hoki',bi,hgi,.inl ⟨hbi,rfl⟩⟩;refine⟨_,h1,⟨fin _ rfl,bj,?_,.inr ⟨keep j i _ _ hdst h1 nj,rj,Oj,qj,stj,fj,hwj,X29 (fun x hx=>congrArg stj (ZI hij x hx).symm) hej,?_⟩⟩,hHi',hHj' _ _⟩
  .rw[asObjs,X4j hij];exact hgj
  simp only;rw[comm]
 have hei':Eff P Oj (fun x=>sti (opd s.regs x)) i ri Oij qi:=X29 (fun x hx=>congrArg sti (ZI hji x hx)) hei
 obtain⟨Oi,h1,h2⟩:=Xc1 hp hdst hej hei' (fun hn d hd=>⟨fun x=>(X28 hwi (X1c (nj hn d hd) x)).1,X3A (nj hn d hd),X04 (nj hn d hd)⟩)
  (fun hn d hd=>⟨fun x=>(X28 hwj (X1c (ni hn d hd) x)).1,X3A (ni hn d hd),X04 (ni hn d hd)⟩) (X5R (Xbf hHj.1 hwj) hej) (X5R (Xbf hHi'.1 hwi) hei') (fun hd x hx n=>(X28 hwj (hHj.2 hd x hx n)).1) (fun hd x hx n=>(X28 hwi (hHi'.2 hd x hx n)).1)
 have hs1:Stp P ops i s {s with regs:=WR i.dst (fi ri) s.regs,objs:=Oi}:=⟨hoki',bi,hgi,.inr ⟨ni,ri,Oi,qi,sti,fi,hwi,h1,rfl⟩⟩;refine⟨_,hs1,⟨fin _ rfl,bj,?_,.inr ⟨keep j i _ _ hdst hs1 nj,rj,Oij,qj,stj,fj,hwj,X29 (fun x hx=>congrArg stj (ZI hij x hx).symm) h2,?_⟩⟩,hHi',hHj' _ _⟩
 .rw[X4j hij];exact hgj
 simp only;rw[comm]
def QY (a b:Oper):Bool:=QA a&&QA b&&WM a.dst b.dst
theorem Wp {o b:Oper} {s s1:HS} (h:Stp P ops o s s1) (hc:QY o b=false) (hn:W8 s b):W8 s1 b:=by
 intro hb d hd;refine Xb9 h (fun ho e=>?_) (hn hb d hd);simp[QY,ho,hb,e,hd,WM]at hc
def X1q (P:Program) (ops:Array Oper) (hs:List (Nat×Nat)):List Oper->HS->(HS->Prop)->Prop
 |[],s,K=>K s
 |o::l,s,K=>∃s1,Stp P ops o s s1/\HokS hs o s/\X1q P ops hs l s1 K
theorem hok_nil {o:Oper} {s:HS}:HokS [] o s:=by
 refine⟨fun k n h=>?_,fun h=>by simp[X4U]at h⟩;unfold Qy at h;split at h<;>cases h
theorem X52 {K:HS->Prop}:∀(l:List Oper) (s:HS),l.Pairwise (fun a b=>QY a b=false)->(∀o∈l,W8 s o)->wpR P ops l s K->X1q P ops [] l s K
 |[],_,_,_,h=>h
 | o::l,s,hp,hn,h=>by
   obtain⟨s1,h1,h2⟩:=X2B (hn o (by simp)) h;have hp':=NQ.1 hp;exact⟨s1,h1,hok_nil,X52 l s1 hp'.2 (fun p hpl=>Wp h1 (hp'.1 p hpl) (hn p (by simp[hpl]))) h2⟩
def noMen (r:RV):Bool:=
 match r with
 | .v (.one (.c _))=>true
 | .v (.one (.gd _ (.c _)))=>true
 |_=>false
theorem noMen_ok {r:RV} (h:noMen r=true) (n:Nat):¬r.men n:=by
 intro hm;have hm:=RV.menB_iff.2 hm;unfold noMen at h;split at h
 .simp[RV.menB,TV.menB,CV.menB]at hm
 .simp[RV.menB,TV.menB,CV.menB]at hm
 cases h
def X4E (hs:List (Nat×Nat)) (o:Oper) (s:HS):Bool:=
 (match Qy hs o with
 | some (k,n)=>match opd s.regs (.tmp k)with
   | .v (.one (.at_ m _))=>m==n
   | .v (.one (.gd _ (.at_ m _)))=>m==n
   |_=>false
 |none=>true)&&(!X4U hs o||(XW o.op).all fun x=>noMen (opd s.regs x))
def evsH (P:Program) (ops:Array Oper) (hs:List (Nat×Nat)):List Oper->HS->Option HS
 |[],s=>some s
 | o::l,s=>if X4E hs o s=true then match evs P ops [o] s with
   |some s'=>evsH P ops hs l s'
   |none=>none
   else none
theorem X7d {hs:List (Nat×Nat)} {o:Oper} {s:HS} (h:X4E hs o s=true):HokS hs o s:=by
 unfold X4E at h;rw[N4]at h;obtain⟨h,hdat⟩:=h;refine⟨fun k n hh=>?_,fun hd x hx n=>?_⟩
 rotate_left
 .rw[hd]at hdat;simp only[Bool.not_true,Bool.false_or,Nm]at hdat;exact noMen_ok (hdat x hx) n
 rw[hh]at h;simp only at h;split at h
 .rename_i m off hg;simp only[beq_iff_eq]at h;subst h;exact⟨off,.inl hg⟩
 .rename_i b m off hg;simp only[beq_iff_eq]at h;subst h;exact⟨off,.inr ⟨b,hg⟩⟩
 cases h
theorem X3q {hs:List (Nat×Nat)} {K:HS->Prop}:∀(l:List Oper) (s s':HS),l.Pairwise (fun a b=>QY a b=false)->(∀o∈l,W8 s o)->evsH P ops hs l s=some s'->K s'->X1q P ops hs l s K
 |[],s,s',_,_,h,hk=>by cases h;exact hk
 | o ::l,s,s',hp,hn,h,hk=>by
   unfold evsH at h;split at h
   .rename_i hb;split at h
    .rename_i s1 he;have hw:wpR P ops [o] s (fun t=>t=s1):=X1g _ _ _ he rfl;obtain⟨s2,h1,h2⟩:=X2B (hn o (by simp)) hw;have e:s2=s1:=h2;subst e;have hp':=NQ.1 hp;exact⟨s2,h1,X7d hb,X3q l s2 s' hp'.2 (fun p hpl=>Wp h1 (hp'.1 p hpl) (hn p (by simp[hpl]))) h hk⟩
    cases h
   cases h
theorem pull {hs:List (Nat×Nat)} {oi:Oper} {l2:List Oper} {K:HS->Prop}:∀(l1:List Oper) (s:HS),(∀j∈l1,X2F hs ops j oi=true)->(∀j∈l1,QY oi j=false/\QY j oi=false)->(∀j∈l2,QY oi j=false)->
  (l1++l2).Pairwise (fun a b=>QY a b=false)->W8 s oi->(∀o∈l1++l2,W8 s o)->X1q P ops hs (l1++oi::l2) s K->
  ∃s',Stp P ops oi s s'/\HokS hs oi s/\X1q P ops hs (l1++l2) s' K/\∀o∈l1++l2,W8 s' o
 | [],s,_,_,h2,_,hni,hn,hw=>by
   obtain⟨s',h1,hH,h3⟩:=hw;exact⟨s',h1,hH,h3,fun o ho=>Wp h1 (h2 o ho) (hn o ho)⟩
 | j::l1,s,hx,hc1,hc2,hpw,hni,hn,hw=>by
   have hnj:W8 s j:=hn j (by simp);obtain⟨s1,hj,hHj,hw1⟩:=hw;rw[List.cons_append]at hpw;have hpw':=NQ.1 hpw;have hcj:=hc1 j (by simp)
   obtain⟨s2,hi,hHi,hw2,hn2⟩:=pull l1 s1 (fun k hk=>hx k (by simp[hk])) (fun k hk=>hc1 k (by simp[hk])) hc2 hpw'.2 (Wp hj hcj.2 hni)
    (fun o ho=>Wp hj (hpw'.1 o ho) (hn o (by simp only[List.cons_append];exact NS _ ho))) hw1
   obtain⟨s1',hi',hj',hHi',hHj'⟩:=stp_swap (hx j (by simp)) hj hi hnj hni hHj hHi;refine⟨s1',hi',hHi',⟨s2,hj',hHj',hw2⟩,fun o ho=>?_⟩;refine Wp hi' ?_ (hn o ho);rw[List.cons_append]at ho;rcases Nh.1 ho with rfl|ho
   .exact hcj.1
   rcases Ng.1 ho with ho|ho
   .exact(hc1 o (by simp[ho])).1
   exact hc2 o ho
def X3b (ops:Array Oper):Nat->Nat->Nat->Bool
 |0,_,_=>false
 | n+1,i,j=>match ops[i]? with
   |some o=>o.after.toList.any fun e=>Region.binds .any e&&(e.on==j||X3b ops n e.on j)
   |none=>false
def X2r (hs:List (Nat×Nat)) (ops:Array Oper):Bool:=
 (List.range ops.size).all fun i=>match ops[i]? with
  |none=>true
  | some o=>(o.after.toList.all fun e=> !Region.binds .any e||decide (e.on<i))&&
    (List.range i).all fun j=>match ops[j]? with
     |none=>true
     |some p=>(X3b ops ops.size i j||X2F hs ops p o)&& !QY p o&& !QY o p
def X0B (ops:List Oper) (s:HS):Bool:=ops.all fun o=> !QA o||match o.dst with|some d=>Wb d s|none=>true
def Xr (ops:Array Oper) (listed:Array Bool):List Nat:=(List.range ops.size).filter fun i=> !listed.getD i true
def QH (ops:Array Oper) (l:List Nat):List Oper:=l.filterMap (ops[·]?)
theorem QI {listed:Array Bool} {i:Nat}:i∈Region.ready .any ops listed↔i<ops.size/\listed.getD i true=false/\∃o,ops[i]? =some o/\∀e∈o.after,Region.binds .any e=true->listed.getD e.on false=true:=by
 unfold Region.ready;simp only[NR,List.mem_range,N4,Nw];constructor
 .rintro⟨h1,h2,h3⟩;refine⟨h1,h2,ops[i],by simp,?_⟩;simp only[NC h1,Option.map_some,Option.getD_some,Array.all_eq_true_iff_forall_mem,Nl,Nw]at h3;intro e he hb;rcases h3 e he with h|h
  .rw[hb]at h;cases h
  exact h
 rintro⟨h1,h2,o,ho,h3⟩;refine⟨h1,h2,?_⟩;simp only[ho,Option.map_some,Option.getD_some,Array.all_eq_true_iff_forall_mem,Nl,Nw];intro e he;cases hb:Region.binds .any e with
 |false=>exact .inl rfl
 |true=>exact .inr (h3 e he hb)
theorem X0r {listed:Array Bool} (hdc:∀i o,ops[i]? =some o->listed.getD i false=true->∀e∈o.after,Region.binds .any e=true->listed.getD e.on false=true):
  ∀(n i j:Nat) (o:Oper),ops[i]? =some o->(∀e∈o.after,Region.binds .any e=true->listed.getD e.on false=true)->X3b ops n i j=true->listed.getD j false=true
 |0,_,_,_,_,_,h=>by cases h
 | n+1,i,j,o,ho,hr,h=>by
   simp only[X3b,ho,List.any_eq_true,N4,Nl,beq_iff_eq]at h;obtain⟨e,he,hb,h⟩:=h;replace he:=Array.mem_toList_iff.1 he;have hl:=hr e he hb;rcases h with rfl|h
   .exact hl
   cases hoe:ops[e.on]? with
   |none=>cases n<;>simp[X3b,hoe]at h
   |some p=>exact X0r hdc n e.on j p hoe (hdc e.on p hoe hl) h
theorem ZN {hs:List (Nat×Nat)} (hd:X2r hs ops=true) {i:Nat} {o:Oper} (ho:ops[i]? =some o):(∀e∈o.after,Region.binds .any e=true->e.on<i)/\
  ∀j p,j<i->ops[j]? =some p->(X3b ops ops.size i j=true\/X2F hs ops p o=true)/\QY p o=false/\QY o p=false:=by
 have hi:i<ops.size:=(NM.1 ho).1;unfold X2r at hd;rw[Nm]at hd;have:=hd i (by simpa using hi);simp only[ho,N4,Nm,Nl,Nw,N6]at this;refine⟨fun e he hb=>?_,fun j p hj hp=>?_⟩
 .rcases this.1 e (Array.mem_toList_iff.2 he)with h|h
  .rw[hb]at h;cases h
  exact h
 have h2:=this.2 j (by simpa using hj);simp only[hp,N4,Nl,Nw]at h2;exact⟨h2.1.1,h2.1.2,h2.2⟩
theorem XR {listed:Array Bool} {i:Nat}:i∈Xr ops listed↔i<ops.size/\listed.getD i true=false:=by
 simp[Xr]
theorem Qo (listed:Array Bool):(Xr ops listed).Pairwise (· < ·):=List.Pairwise.filter _ List.pairwise_lt_range
theorem WB {l:List Nat} {o:Oper}:o∈QH ops l↔∃i∈l,ops[i]? =some o:=by simp[QH]
theorem QO (l m:List Nat):QH ops (l++m)=QH ops l++QH ops m:=by simp[QH]
theorem X2x {i:Nat} {o:Oper} (h:ops[i]? =some o) (l:List Nat):QH ops (i::l)=o::QH ops l:=by simp[QH,h]
theorem Wn {hs:List (Nat×Nat)} (hd:X2r hs ops=true):∀(l:List Nat),l.Pairwise (· < ·)->(QH ops l).Pairwise (fun a b=>QY a b=false)
 |[],_=>by simp[QH]
 | i ::l,h=>by
   have h':=NQ.1 h;cases ho:ops[i]? with
   | none=>
     have:QH ops (i::l)=QH ops l:=by simp[QH,ho]
     rw[this];exact Wn hd l h'.2
   | some o=>
     rw[X2x ho];refine NQ.2 ⟨fun p hp=>?_,Wn hd l h'.2⟩;obtain⟨k,hk,hpk⟩:=WB.1 hp;exact((ZN hd hpk).2 i o (h'.1 k hk) ho).2.1
theorem Xay {listed:Array Bool} {i:Nat} (hsz:listed.size=ops.size) (hi:i∈Xr ops listed):
  ∃l1 l2,Xr ops listed=l1++i::l2/\Xr ops (listed.setIfInBounds i true)=l1++l2/\(∀j∈l1,j<i)/\(∀j∈l2,i<j):=by
 obtain⟨l1,l2,he⟩:=List.append_of_mem hi;have hs:=Qo (ops:=ops) listed;rw[he]at hs;obtain⟨h1,h2,h3⟩:=List.pairwise_append.1 hs;have h2':=NQ.1 h2;have hlt:∀j∈l1,j<i:=fun j hj=>h3 j hj i (by simp);refine⟨l1,l2,he,?_,hlt,h2'.1⟩;have hii:i<listed.size:=by rw[hsz];exact(XR.1 hi).1
 have:Xr ops (listed.setIfInBounds i true)=(Xr ops listed).filter (fun j=>decide (j≠i)):=by
  unfold Xr;rw[List.filter_filter];apply List.filter_congr;intro j hj;by_cases e:j=i
  .subst e;simp[hii]
  simp only[Nu,NI (Ne.symm e)];simp[e]
 rw[this,he,Dl,List.filter_cons];simp only[ne_eq,not_true_eq_false,decide_false,Nz,Nc];rw[DB.2 fun j hj=>by simp;exact Nat.ne_of_lt (hlt j hj),DB.2 fun j hj=>by simp;exact Nat.ne_of_gt (h2'.1 j hj)]
theorem XbV {hs:List (Nat×Nat)} {w0:World} {B:Nat->Prop} {U:Nat->Option Value} {K:HS->Prop} {Q:Exit->Act->World->Prop} (hd:X2r hs ops=true):∀(fuel:Nat) (listed:Array Bool) (s:HS) (F:Nat->Prop) (T:Nat->Value) (a:Act) (w:World),
  listed.size=ops.size->(∀i o,ops[i]? =some o->listed.getD i false=true->∀e∈o.after,Region.binds .any e=true->listed.getD e.on false=true)->
  (Xr ops listed).length<=fuel->(∀o∈QH ops (Xr ops listed),W8 s o)->Rel w0 B U F T s a w->X1q P ops hs (QH ops (Xr ops listed)) s K->
  (∀s' F' T' a' w',K s'->(∀b,F b->F' b)->(∀b,F' b->F b\/¬B b)->Rel w0 B U F' T' s' a' w'->Q .normal a' w')->wpAny P .any ops Q fuel listed a w:=by
 -- where nothing can come up, nothing is left
 have done:∀(listed:Array Bool),listed.size=ops.size->Region.ready .any ops listed=[]->Xr ops listed=[]:=by
  intro listed hsz hr;cases hres:Xr ops listed with
  |nil=>rfl
  | cons i l=>
    exfalso;have hi:i∈Xr ops listed:=by rw[hres];simp
    obtain⟨hlt,hun⟩:=XR.1 hi
    have:i∈Region.ready .any ops listed:=by
     refine QI.2 ⟨hlt,hun,ops[i],by simp[hlt],fun e he hb=>?_⟩;have hon:=(ZN hd (i:=i) (o:=ops[i]) (by simp[hlt])).1 e he hb
     have hnot:e.on∉Xr ops listed:=by
      intro hm;have hs:=Qo (ops:=ops) listed;rw[hres]at hs hm;rcases Nh.1 hm with e'|hm
      .omega
      have:=(NQ.1 hs).1 _ hm;omega
     rw[XR]at hnot;have hel:e.on<listed.size:=by omega
     rw[Nu,NC hel]at hnot⊢;simp only[Option.getD_some,not_and,Bool.not_eq_false]at hnot⊢;exact hnot (by omega)
    rw[hr]at this;cases this
 intro fuel
 induction fuel with
 | zero=>
   intro listed s F T a w hsz hdc hlen hn hr hw hK;have h0:Xr ops listed=[]:=Nv (by omega);refine⟨?_,?_⟩
   .cases hre:Region.ready .any ops listed with
    |nil=>rfl
    | cons i l=>
      exfalso;have hi:i∈Region.ready .any ops listed:=by rw[hre];simp
      obtain⟨h1,h2,_⟩:=QI.1 hi;have:i∈Xr ops listed:=XR.2 ⟨h1,h2⟩;rw[h0]at this;cases this
   rw[h0]at hw;exact hK s F T a w hw (fun _ h=>h) (fun _ h=>.inl h) hr
 | succ fuel ih=>
   intro listed s F T a w hsz hdc hlen hn hr hw hK;refine⟨fun h0=>?_,fun i hi=>?_⟩
   .rw[done listed hsz h0]at hw;exact hK s F T a w hw (fun _ h=>h) (fun _ h=>.inl h) hr
   obtain⟨hlt,hun,o,ho,hpre⟩:=QI.1 hi;have hir:i∈Xr ops listed:=XR.2 ⟨hlt,hun⟩;obtain⟨l1,l2,he,he',h1,h2⟩:=Xay hsz hir;have hsort:=Qo (ops:=ops) listed;rw[he]at hw hn;rw[QO,X2x ho]at hw hn
   have hx:∀p∈QH ops l1,X2F hs ops p o=true/\QY p o=false/\QY o p=false:=by
    intro p hp;obtain⟨j,hj,hpj⟩:=WB.1 hp;have h3:=(ZN hd ho).2 j p (h1 j hj) hpj;refine⟨h3.1.resolve_left fun hpd=>?_,h3.2⟩;have hjl:=X0r hdc ops.size i j o ho hpre hpd;have hjr:j∈Xr ops listed:=by rw[he];simp[hj]
    have hjun:=(XR.1 hjr).2;have hjs:j<listed.size:=by rw[hsz];exact(XR.1 hjr).1
    rw[Nu,NC hjs]at hjl hjun;simp only[Option.getD_some]at hjl hjun;rw[hjl]at hjun;cases hjun
   have hpw:(QH ops l1++QH ops l2).Pairwise (fun a b=>QY a b=false):=by
    rw[<-QO];refine Wn hd _ ?_;rw[<-he'];exact Qo _
   obtain⟨s',hst,_,hw',hn'⟩:=pull (P:=P) (ops:=ops) (hs:=hs) (oi:=o) (l2:=QH ops l2) (K:=K) (QH ops l1) s (fun p hp=>(hx p hp).1) (fun p hp=>⟨(hx p hp).2.2,(hx p hp).2.1⟩)
    (fun p hp=>by
     obtain⟨j,hj,hpj⟩:=WB.1 hp
     exact((ZN hd hpj).2 i o (h2 j hj) ho).2.1) hpw (hn o (by simp)) (fun p hp=>hn p (by
      rcases Ng.1 hp with hp|hp
      .simp[hp]
      simp[hp])) hw
   refine X4M ho hr hst fun F' T' a' w' h3 h4 hr2=>?_;refine ih (listed.setIfInBounds i true) s' F' T' a' w' (by simpa using hsz) ?_ ?_ ?_ hr2 ?_ fun s3 F3 γ3 a3 w3 hk3 h5 h6 hr3=>?_
   .intro k p hp hk e hee hb
    have hmono:∀x,listed.getD x false=true->(listed.setIfInBounds i true).getD x false=true:=by
     intro x hx';by_cases ex:x=i
     .subst ex;simp[hsz,hlt]
     rw[Nu,NI (Ne.symm ex),<-Array.getD_eq_getD_getElem?];exact hx'
    by_cases ek:k=i
    .subst ek;rw[ho]at hp;cases hp;exact hmono _ (hpre e hee hb)
    rw[Nu,NI (Ne.symm ek),<-Array.getD_eq_getD_getElem?]at hk;exact hmono _ (hdc k p hp hk e hee hb)
   .rw[he'];rw[he]at hlen;simp only[N9,List.length_cons]at hlen⊢;omega
   .rw[he',QO];exact hn'
   .rw[he',QO];exact hw'
   exact hK s3 F3 γ3 a3 w3 hk3 (fun b hb=>h5 b (h3 b hb)) (fun b hb=>(h6 b hb).elim (h4 b) .inr) hr3
theorem X47 {T:Type}:∀(l:List T),(List.range l.length).filterMap (l[·]?)=l
 |[]=>rfl
 | x::l=>by
   rw[List.length_cons,List.range_succ_eq_map,List.filterMap_cons];simp only[List.getElem?_cons_zero,List.filterMap_map];congr 1;exact X47 l
theorem X6e {hs:List (Nat×Nat)} {id:Nat} {s:HS} {Q:Exit->HS->Prop} (hm:P.follows .mixedOrders=true) (hd:X2r hs ops=true) (hc:X0B ops.toList s=true)
  (h:ops.toList.Pairwise (fun a b=>QY a b=false)->(∀o∈ops.toList,W8 s o)->X1q P ops hs ops.toList s (Q .normal)):HT P (.region id ops true) s Q:=by
 intro w0 B U F T a w hr
 have hrest:Xr ops (Array.replicate ops.size false)=List.range ops.size:=by
  unfold Xr;refine DB.2 fun i hi=>?_;have:i<ops.size:=by simpa using hi
  simp[this]
 have hopers:QH ops (List.range ops.size)=ops.toList:=by
  unfold QH;have:=X47 ops.toList;simpa using this
 have hok:∀o∈ops.toList,W8 s o:=by
  intro o ho hn d hdd;unfold X0B at hc;rw[Nm]at hc;have:=hc o ho;simpa[hn,hdd]using this
 have hruns:X1q P ops hs ops.toList s (Q .normal):=by
  refine h ?_ hok;rw[<-hopers];exact Wn hd _ List.pairwise_lt_range
 refine wp_region_any hm (XbV (P:=P) (ops:=ops) (hs:=hs) (w0:=w0) (B:=B) (U:=U) (K:=Q .normal) hd ops.size (Array.replicate ops.size false) s F T a {w with drawn:=w.drawn+1} (by simp) ?_ ?_ ?_ ?_ ?_ fun s' F' T' a' w' hk h1 h2 h3=>⟨s',F',T',hk,h1,h2,h3⟩)
 .intro i o ho hl;have hi:i<ops.size:=(NM.1 ho).1;simp[hi]at hl
 .rw[hrest];simp
 .rw[hrest,hopers];exact hok
 .exact⟨hr.heap.drew,hr.defers,hr.nt,fun k r hk=>(hr.regs k r hk).mono (w:=w) (w':={w with drawn:=w.drawn+1}) (fun _ h=>h) fun _ _=>rfl⟩
 rw[hrest,hopers];exact hruns
def drawB (ops:Array Oper):Bool:=X2r [] ops
theorem X7s {id:Nat} {s:HS} {Q:Exit->HS->Prop} (hm:P.follows .mixedOrders=true) (hd:drawB ops=true) (hc:X0B ops.toList s=true) (h:wpR P ops ops.toList s (Q .normal)):HT P (.region id ops true) s Q:=
 X6e hm hd hc fun hp hok=>X52 _ _ hp hok h
theorem Q7 {id:Nat} {s s':HS} {Q:Exit->HS->Prop} (hm:P.follows .mixedOrders=true) (hd:drawB ops=true) (hc:X0B ops.toList s=true) (h:evs P ops ops.toList s=some s') (hq:Q .normal s'):HT P (.region id ops true) s Q:=
 X7s hm hd hc (X1g _ _ _ h hq)
theorem QC {id:Nat} {s s':HS} {p:Prop} {Q:Exit->HS->Prop} (cs:List CR) (hm:P.follows .mixedOrders=true) (hd:drawB ops=true) (hc:X0B ops.toList s=true) (h:evc P ops ops.toList s cs=some (s',p)) (hp:p) (hq:Q .normal s'):HT P (.region id ops true) s Q:=
 X7s hm hd hc (QZ _ _ _ _ _ h hp hq)
theorem X96 {id:Nat} (hs:List (Nat×Nat)) {s s':HS} {Q:Exit->HS->Prop} (hm:P.follows .mixedOrders=true) (hd:X2r hs ops=true) (hc:X0B ops.toList s=true) (h:evsH P ops hs ops.toList s=some s') (hq:Q .normal s'):HT P (.region id ops true) s Q:=
 X6e hm hd hc fun hp hok=>X3q _ _ _ hp hok h hq
end
def X6V:Nat->List (Nat×Nat×TypeId)->Option Nat
 |off,[]=>some off
 |off,(o,n,_)::l=>if o=off then X6V (off+n) l else none
def X95 (P:Program) (fs:Array Field):List (Nat×Nat×TypeId):=fs.toList.map fun f=>(f.offset,P.cellsOf f.type,f.type)
def segsA (P:Program) (n:Nat) (e:TypeId):List (Nat×Nat×TypeId):=(List.range n).map fun i=>(i*P.cellsOf e,P.cellsOf e,e)
def X4q (P:Program) (t:TypeId):Bool:=
 match P.underlying t with
 |some (.struct fs)=>X6V 0 (X95 P fs)==some (P.cellsOf t)&&(X95 P fs).all fun x=>decide (x.2.2<P.types.size)
 |some (.array n e)=>X6V 0 (segsA P n e)==some (P.cellsOf t)&&decide (e<P.types.size)
 |some (.slice e)=>decide (0<P.cellsOf e)&&decide (e<P.types.size)
 |_=>true
def X8o (P:Program):Prop:=∀t,t<P.types.size->X4q P t=true
def QL (P:Program):Nat->TypeId->List CD->Prop
 |0,_,_=>False
 | k+1,t,ds=>match P.underlying t with
   |some .bool=>∃b,ds=[.lit (.bool b)]
   |some (.int k)=>∃n,ds=[.lit (.int k n)]/\(Lit.int k n).wf=true
   |some .string=>∃s,ds=[.lit (.string s)]/\s.size<=maxLen
   |some (.slice e)=>∃rows,ds=[.sl (P.cellsOf e) rows]/\(rows.length<=maxLen/\rows.length*P.bytesOf e<=reachBytes)/\∀r∈rows,r.length=P.cellsOf e/\QL P k e r
   |some (.struct fs)=>ds.length=P.cellsOf t/\∀x∈X95 P fs,QL P k x.2.2 ((ds.drop x.1).take x.2.1)
   |some (.array n e)=>ds.length=P.cellsOf t/\∀x∈segsA P n e,QL P k x.2.2 ((ds.drop x.1).take x.2.1)
   |_=>True
section
variable {P:Program} {H:Type} {enc:TypeId×Value->H} {w:World} {base:Nat} {spare:Nat->Bool} {held:Bool}
def inMem (w:World):Nat->Prop:=fun b=>b<w.heap.size
structure Reads (P:Program) (w:World) (k:Nat) (t:TypeId) (cs:List Value) (ds:List CD):Prop where
 len:ds.length=cs.length
 rel:∀(j:Nat) d u,ds[j]? =some d->cs[j]? =some u->CRel (inMem w) w d u
 one:∀u∈cs,u.oneCell'=true
 shape:QL P k t ds
theorem X2i {k:Nat} {t:TypeId} {v:Value} (h1:v.oneCell'=true) (hs:QL P k t [.lit v]):Reads P w k t [v] [.lit v]:=
 ⟨rfl,fun j d u hd hu=>by
  cases j with
  |zero=>cases hd;cases hu;exact .lit _
  |succ j=>simp at hd,by simpa using h1,hs⟩
theorem X11 {T Y:Type} {f:T->Option Y}:∀{l:List T} {ys:List Y},l.mapM f=some ys->ys.length=l.length/\∀(i:Nat) x,l[i]? =some x->∃y,ys[i]? =some y/\f x=some y
 |[],ys,h=>by cases h;simp
 | x::l,ys,h=>by
   rw[List.mapM_cons]at h;simp only[Option.bind_eq_bind,Option.bind_eq_some_iff,Option.pure_def,Option.some.injEq]at h;obtain⟨y,hy,ys',hys,rfl⟩:=h;obtain⟨h1,h2⟩:=X11 hys;refine⟨by simp[h1],fun i z hz=>?_⟩;cases i with
   |zero=>cases hz;exact⟨y,rfl,hy⟩
   |succ i=>exact h2 i z hz
theorem Xam {a:Addr} {n:Nat} {cs:List Value} (h:w.cells? base a n=some cs):cs.length=n/\∀i,i<n->∃u,cs[i]? =some u/\w.cell? (a.add i)=some u:=by
 unfold World.cells? at h;split at h
 .obtain⟨h1,h2⟩:=X11 h;refine⟨by simpa using h1,fun i hi=>?_⟩;exact h2 i i (by simp[hi])
 cases h
theorem XaB {a:Addr} {u:Value} (h:w.cell? a=some u):a.block<w.heap.size/\a.spot=none:=by
 unfold World.cell? at h;split at h
 .rename_i c e fr hb;refine⟨?_,?_⟩
  .rcases Nat.lt_or_ge a.block w.heap.size with h|h
   .exact h
   simp[Array.getElem?_eq_none h]at hb
  cases hs:a.spot with
  |none=>rfl
  |some x=>simp[hs]at h
 cases h
theorem X6A {k:Nat} {cs:List Value}:∀(l:List (Nat×Nat×TypeId)) (off Zg:Nat),X6V off l=some Zg->cs.length=Zg->
  (∀x∈l,∃ds,Reads P w k x.2.2 ((cs.drop x.1).take x.2.1) ds)->
  off<=Zg/\∃ds:List CD,ds.length=Zg - off/\(∀(j:Nat) d u,ds[j]? =some d->cs[off+j]? =some u->CRel (inMem w) w d u)/\(∀(j:Nat) u,off<=j->cs[j]? =some u->u.oneCell'=true)/\
   ∀x∈l,off<=x.1/\QL P k x.2.2 ((ds.drop (x.1 - off)).take x.2.1)
 | [],off,Zg,h,hl,_=>by
   cases h;refine⟨NK _,[],by simp,by simp,fun j u hj hu=>?_,by simp⟩;rw[Nx (by omega)]at hu;cases hu
 | (o, n,t)::l,off,Zg,h,hl,hx=>by
   unfold X6V at h;split at h
   .rename_i ho;subst ho;obtain⟨hle,ds2,h1,h2,h3,h4⟩:=X6A l _ _ h hl fun x hxl=>hx x (by simp[hxl]);obtain⟨ds1,r1,r2,r3,r4⟩:=hx (o,n,t) (by simp);simp only at r1 r2 r3 r4;have hn:ds1.length=n:=by rw[r1,NG,Da];omega
    refine⟨by omega,ds1++ds2,by rw[N9,h1,hn];omega,fun j d u hd hu=>?_,fun j u hj hu=>?_,fun x hxl=>?_⟩
    .by_cases hj:j<n
     .rw[Ns (by omega)]at hd;refine r2 j d u hd ?_;rw[NE,Na hj,Ny];exact hu
     rw[Nn (by omega),hn]at hd;refine h2 _ d u hd ?_;rw[<-hu];congr 1;omega
    .by_cases hj':j<o+n
     .refine r3 u ?_;refine N3 (i:=j - o) ?_;rw[NE,Na (by omega),Ny,<-hu];congr 1;omega
     exact h3 j u (by omega) hu
    rcases Nh.1 hxl with rfl|hxl
    .refine⟨NK _,?_⟩;simp only[Nat.sub_self,List.drop_zero];rw[List.take_append_of_le_length (by omega),List.take_of_length_le (by omega)];exact r4
    obtain⟨h5,h6⟩:=h4 x hxl;refine⟨by omega,?_⟩;rw[List.drop_append,List.drop_of_length_le (by omega),List.nil_append,hn];rw[show x.1 - o - n=x.1 - (o+n) by omega];exact h6
   cases h
theorem X6d {k:Nat} {t:TypeId} {cs:List Value} {l:List (Nat×Nat×TypeId)} (ht:X6V 0 l=some (P.cellsOf t)) (hl:cs.length=P.cellsOf t)
  (hx:∀x∈l,∃ds,Reads P w k x.2.2 ((cs.drop x.1).take x.2.1) ds) (hs:∀ds:List CD,ds.length=P.cellsOf t->(∀x∈l,QL P k x.2.2 ((ds.drop x.1).take x.2.1))->QL P (k+1) t ds):∃ds,Reads P w (k+1) t cs ds:=by
 obtain⟨_,ds,h1,h2,h3,h4⟩:=X6A l 0 _ ht hl hx;simp only[Nat.zero_add,Nat.sub_zero]at h1 h2 h4;refine⟨ds,h1.trans hl.symm,h2,fun u hu=>?_,hs ds h1 fun x hx=>(h4 x hx).2⟩;obtain⟨j,hj⟩:=NL.1 hu;exact h3 j u (Nq _) hj
theorem X1J {e:TypeId} {n:Nat}:∀{l:List (DataW H)} {d:DataW H},d∈l->n∈d.weights P e->n∈DataW.weightsAll P e l
 | x::l,d,hd,hn=>by
   simp only[DataW.weightsAll,Ng];rcases Nh.1 hd with rfl|hd
   .exact .inl hn
   exact .inr (X1J hd hn)
theorem X4R {n:Nat}:∀{ts us:List TypeId} {ds gs:List (DataW H)},n∈DataW.weightsEach P ts ds->n∈DataW.weightsEach P (ts++us) (ds++gs)
 |[],_,_,_,h=>by simp[DataW.weightsEach]at h
 |t::ts,us,[],_,h=>by simp[DataW.weightsEach]at h
 | t::ts,us,d::ds,gs,h=>by
   simp only[DataW.weightsEach,List.cons_append,Ng]at h⊢;exact h.imp id X4R
theorem ZH (hT:X8o P):∀(k:Nat) (t:TypeId) (cs:List Value) (x:DataW H×List MemPlace),t<P.types.size->DataW.trod enc P w base spare held k t cs=some x->(∀n∈x.1.weights P t,n<=reachBytes)->∃ds,Reads P w k t cs ds
 |0,_,_,_,_,h,_=>by cases h
 | k + 1, t,cs,x,htt,h,hz=>by
   unfold DataW.trod at h
   have other:∀v:Value,v.oneCell'=true->cs=[v]->(match P.underlying t with
     |some .bool=>false
     |some (.int _)=>false
     |some .string=>false
     |some (.slice _)=>false
     |some (.struct _)=>false
     |some (.array _ _)=>false
     |_=>true)=true->∃ds,Reads P w (k+1) t cs ds:=by
    intro v h1 hcs hk;subst hcs;refine⟨_,X2i h1 ?_⟩;unfold QL;split<;>rename_i hu<;>first|(rw[hu]at hk;cases hk)|trivial
   split at h
   .rename_i b hu;exact⟨_,X2i rfl (by unfold QL;rw[hu];exact⟨b,rfl⟩)⟩
   .rename_i k' k2 n hu;split at h
    .rename_i hw;obtain⟨rfl,hw⟩:=hw;exact⟨_,X2i rfl (by unfold QL;rw[hu];exact⟨n,rfl,hw⟩)⟩
    cases h
   .rename_i k' k2 b hu;exact other _ rfl rfl (by rw[hu])
   .rename_i s hu;split at h
    .rename_i hw;exact⟨_,X2i rfl (by unfold QL;rw[hu];exact⟨s,rfl,hw⟩)⟩
    cases h
   .rename_i hu;exact other _ rfl rfl (by rw[hu])
   .rename_i hu;exact other _ rfl rfl (by rw[hu])
   .rename_i e hu;refine⟨[.sl (P.cellsOf e) []],rfl,fun j d u hd hu'=>?_,by simp[Value.oneCell'],?_⟩
    .cases j with
     |zero=>cases hd;cases hu';exact .nil _
     |succ j=>simp at hd
    unfold QL;rw[hu];exact⟨[],rfl,by simp,by simp⟩
   .-- a slice
    rename_i e a len cap hu;simp only at h;split at h
    .rename_i hb;obtain⟨hb1,hb2,hb3⟩:=hb;simp only[Option.bind_eq_some_iff,N8]at h;obtain⟨elems,hel,Xr,_,rfl⟩:=h;obtain⟨hl,hget⟩:=X11 hel
     have hz1:len*P.bytesOf e<=reachBytes:=by
      have:=hz ((elems.length+Xr.length)*P.bytesOf e) (by simp[DataW.weights,hu]);have hle:elems.length=len:=by simpa using hl
      exact Dx (NZ _ (by omega)) this
     have hz2:∀y∈elems,∀n∈y.1.weights P e,n<=reachBytes:=by
      intro y hy n hn;refine hz n ?_;simp only[DataW.weights,hu,Nh,Ng];exact .inr (.inl (X1J (NF.2 ⟨y,hy,rfl⟩) hn))
     have hin:e<P.types.size:=by
      have ht:=hT t htt;unfold X4q at ht;rw[hu]at ht;simp only[N4,N6]at ht;exact ht.2
     have hrow:∀i,i<len->∃row,Reads P w k e (((List.range (P.cellsOf e)).map fun j=>(w.cell? (a.add (i*P.cellsOf e+j))).getD undef)) row/\
       ∀j,j<P.cellsOf e->(w.cell? (a.add (i*P.cellsOf e+j))).isSome=true/\a.block<w.heap.size/\(i*P.cellsOf e+j=0->a.spot=none):=by
      intro i hi;obtain⟨y,hye,hy⟩:=hget i i (by simp[hi]);simp only[Option.bind_eq_some_iff]at hy;obtain⟨cs',hcs',htr⟩:=hy;obtain⟨h1,h2⟩:=Xam hcs'
      have hcell:∀j,j<P.cellsOf e->∃u,cs'[j]? =some u/\w.cell? (a.add (i*P.cellsOf e+j))=some u:=by
       intro j hj;obtain⟨u,hu1,hu2⟩:=h2 j hj;refine⟨u,hu1,?_⟩;rw[<-hu2];congr 1;unfold Addr.add;by_cases e1:i*P.cellsOf e=0<;>by_cases e2:j=0<;>simp[e1,e2,DI]
      have hcs'':cs'=(List.range (P.cellsOf e)).map fun j=>(w.cell? (a.add (i*P.cellsOf e+j))).getD undef:=by
       apply NN;intro j;by_cases hj:j<P.cellsOf e
       .obtain⟨u,hu1,hu2⟩:=hcell j hj;simp[hj,hu1,hu2]
       rw[Nx (by omega),Nx (by simp;omega)]
      obtain⟨row,hrd⟩:=ZH hT k e cs' y hin htr (hz2 y (N3 hye));rw[hcs'']at hrd;refine⟨row,hrd,fun j hj=>?_⟩;obtain⟨u,_,hu2⟩:=hcell j hj;have hbk:=XaB hu2;refine⟨by rw[hu2];rfl,?_,fun h0=>?_⟩
      .have:(a.add (i*P.cellsOf e+j)).block=a.block:=by unfold Addr.add;split<;>rfl
       rw[<-this];exact hbk.1
      have:a.add (i*P.cellsOf e+j)=a:=by rw[h0];rfl
      rw[this]at hbk;exact hbk.2
     have hex:∃rows:List (List CD),rows.length=len/\∀i row,rows[i]? =some row->Reads P w k e (((List.range (P.cellsOf e)).map fun j=>(w.cell? (a.add (i*P.cellsOf e+j))).getD undef)) row:=by
      have:∀n,n<=len->∃rows:List (List CD),rows.length=n/\∀i row,rows[i]? =some row->Reads P w k e (((List.range (P.cellsOf e)).map fun j=>(w.cell? (a.add (i*P.cellsOf e+j))).getD undef)) row:=by
       intro n
       induction n with
       |zero=>exact fun _=>⟨[],rfl,by simp⟩
       | succ n ih=>
         intro hn;obtain⟨rows,h1,h2⟩:=ih (by omega);obtain⟨row,h3,_⟩:=hrow n (by omega);refine⟨rows++[row],by simp[h1],fun i r hr=>?_⟩;by_cases hi:i<n
         .rw[Ns (by omega)]at hr;exact h2 i r hr
         by_cases hi2:i=n
         .subst hi2;rw[Nn (by omega),h1,Nat.sub_self]at hr;cases hr;exact h3
         rw[Nx (by simp;omega)]at hr;cases hr
      exact this len (NK _)
     obtain⟨rows,hrl,hrows⟩:=hex;refine⟨[.sl (P.cellsOf e) rows],rfl,fun j d u hd hu'=>?_,by simp[Value.oneCell'],?_⟩
     .cases j with
      |succ j=>simp at hd
      | zero=>
        cases hd;cases hu'
        have hrs:∀r∈rows,r.length=P.cellsOf e:=by
         intro r hr;obtain⟨i,hi⟩:=NL.1 hr;rw[(hrows i r hi).len];simp
        have hpos:0<P.cellsOf e:=by
         have ht:=hT t htt;unfold X4q at ht;rw[hu]at ht;simp only[N4,N6]at ht;exact ht.1
        by_cases h0:rows=[]
        .subst h0;have:len=0:=hrl.symm;subst this;exact .emp _ a cap
        have hlen:0<len:=by
         rw[<-hrl];exact List.length_pos_iff.2 h0
        obtain⟨_,_,h00⟩:=hrow 0 hlen;have hsp:a.spot=none:=(h00 0 hpos).2.2 (by omega);have hbk:a.block<w.heap.size:=(h00 0 hpos).2.1;have ha:a=⟨a.block,a.off,none⟩:=by rw[<-hsp]
        rw[ha,<-hrl]
        have hadd:∀n,a.add n=⟨a.block,a.off+n,none⟩:=fun n=>by
         have:=Wa a.block a.off n;rw[<-ha]at this;exact this
        refine .sl _ rows a.block a.off cap (fun i j=>(w.cell? (a.add (i*P.cellsOf e+j))).getD undef) hbk (by rw[hrl];exact hb2) hb3 hrs ?_ ?_ ?_
        .intro i j d hd;obtain⟨hi,hj⟩:=Z1 hrs hd;obtain⟨_,_,hc⟩:=hrow i (by rw[<-hrl];exact hi);have:=(hc j hj).1;rw[hadd]at this⊢;obtain⟨u,hu'⟩:=Option.isSome_iff_exists.1 this;rw[hu'];rfl
        .intro i j d hd;obtain⟨hi,hj⟩:=Z1 hrs hd;have hr:rows[i]? =some rows[i]:=NA hi;exact(hrows i _ hr).one _ (NF.2 ⟨j,by simpa using hj,rfl⟩)
        intro i j d hd;obtain⟨hi,hj⟩:=Z1 hrs hd;have hr:rows[i]? =some rows[i]:=NA hi
        have hd':rows[i][j]? =some d:=by
         unfold XN at hd;rw[hr]at hd;exact hd
        exact(hrows i _ hr).rel j d _ hd' (by simp[hj])
     unfold QL;rw[hu];refine⟨rows,rfl,⟨by rw[hrl];omega,by rw[hrl];exact hz1⟩,fun r hr=>?_⟩;obtain⟨i,hi⟩:=NL.1 hr;exact⟨by rw[(hrows i r hi).len];simp,(hrows i r hi).shape⟩
    cases h
   .-- a struct
    rename_i fs hu;split at h
    .rename_i hl;simp only[N8]at h;obtain⟨xs,hxs,rfl⟩:=h;obtain⟨_,hget⟩:=X11 hxs;have ht:=hT t htt;unfold X4q at ht;rw[hu]at ht;simp only[N4,beq_iff_eq,Nm,N6]at ht;refine X6d ht.1 hl (fun x hx=>?_) fun ds hd hs=>?_
     .have hxs:=ht.2 x hx;obtain⟨f,hf,rfl⟩:=NF.1 hx;obtain⟨i,hi⟩:=NL.1 hf;obtain⟨y,hye,hy⟩:=hget i f hi;refine ZH hT k _ _ y hxs hy fun n hn=>hz n ?_;simp only[DataW.weights,hu];exact DataW.weights_mem_each (j:=i) (t:=f.type) (d:=y.1) (by rw[Np,hi];rfl) (by rw[Np,hye];rfl) n hn
     unfold QL;rw[hu];exact⟨hd,hs⟩
    cases h
   .-- an array
    rename_i n e hu;split at h
    .rename_i hl;simp only[N8]at h;obtain⟨xs,hxs,rfl⟩:=h;obtain⟨_,hget⟩:=X11 hxs;have ht:=hT t htt;unfold X4q at ht;rw[hu]at ht;simp only[N4,beq_iff_eq,N6]at ht;refine X6d ht.1 hl (fun x hx=>?_) fun ds hd hs=>?_
     .obtain⟨i,hi,rfl⟩:=NF.1 hx;have hi':i<n:=by simpa using hi
      obtain⟨y,hye,hy⟩:=hget i i (by simp[hi']);refine ZH hT k _ _ y ht.2 hy fun n hn=>hz n ?_;simp only[DataW.weights,hu];exact X1J (NF.2 ⟨y,N3 hye,rfl⟩) hn
     unfold QL;rw[hu];exact⟨hd,hs⟩
    cases h
   .rename_i hu;exact other _ rfl rfl (by rw[hu])
   .rename_i hu;exact other _ rfl rfl (by rw[hu])
   .rename_i hu;exact other _ rfl rfl (by rw[hu])
   .rename_i hu;exact other _ rfl rfl (by rw[hu])
   .rename_i hu;exact other _ rfl rfl (by rw[hu])
   .rename_i hu;exact other _ rfl rfl (by rw[hu])
   .rename_i hu;exact other _ rfl rfl (by rw[hu])
   .rename_i hu;exact other _ rfl rfl (by rw[hu])
   .rename_i hu;exact other _ rfl rfl (by rw[hu])
   .rename_i hu;exact other _ rfl rfl (by rw[hu])
   cases h
end
end Go.Hl
