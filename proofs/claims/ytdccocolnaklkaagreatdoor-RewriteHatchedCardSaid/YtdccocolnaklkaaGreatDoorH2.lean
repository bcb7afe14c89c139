/- Part of an evaluator that is sound over the model. Conditions: none. -/
import Derived.Test.YtdccocolnaklkaaGreatDoorH1
import Derived.MapKept
import Derived.Maps.RangeRun
import Derived.ArgAppend
set_option linter.unusedSimpArgs false
set_option linter.unusedVariables false
namespace Go.Hl
open Go Go.RowKit
section
variable {P:Program} {F:Nat->Prop} {T:Nat->Value} {w w' w0:World} {B:Nat->Prop} {U:Nat->Option Value}
theorem HeapRel.alloc {objs:List (Nat×Ob)} (h:HeapRel w0 B U F T objs w) {d:Nat} {x:Value} {ob:Ob} {o:Obj}
  (hd:∀n o,lkp objs n=some o->n≠d/\¬o.men d) (hd6:d<1000000) (hx:∀b,Blk x b->b=w.heap.size)
  (hob:Q4 F (upd T d x) (w.alloc o) B x ob):HeapRel w0 B U F (upd T d x) (ins d ob objs) (w.alloc o):=
 h.made hd (h.below.alloc h.hB o) (by simp) (fun b hb=>Below.heap_alloc w o b hb) (fun b hb=>by rw[hx b hb];exact ND _) hd6 hob
theorem HeapRel.keepR {objs:List (Nat×Ob)} (h:HeapRel w0 B U F T objs w) (hkeep:∀b,b<w.heap.size->w'.heap[b]? =w.heap[b]?) {r:RV} {v:Value} (hr:X9 F T w r v):X9 F T w' r v:=
 hr.mono (fun _ h=>h) fun b hb=>hkeep b (h.fsz b hb)
theorem Zh:∀(cs:List CV) (r:List CD),WG cs=some r->cs=r.map .c
 |[],r,h=>by cases h;rfl
 | c::cs,r,h=>by
   cases c<;>simp only[WG]at h<;>try cases h
   simp only[N8]at h;obtain⟨r',hr',rfl⟩:=h;simp[Zh cs r' hr']
theorem X2C {size:Nat} {g:Operand->RV} {Y:Operand->Value} (hg:∀x,X9 F T w (g x) (Y x)):∀(l:List (Nat×Operand)) (k:Nat) (rows:List (List CD)),
  WE size g k l=some rows->rows.length=l.length/\(∀r∈rows,r.length=size)/\
   (l.map fun x=>(x.1,Y x.2))=((l.map fun x=>Y x.2).zipIdx k).map (fun x=>(x.2,x.1))/\
   (∀x∈l,(Y x.2).cells.size=size/\∀u∈(Y x.2).cells.toList,u.oneCell'=true)/\
   ∀i j d,XV rows i j=some d->∃u,XV (l.map fun x=>(Y x.2).cells.toList) i j=some u/\CRel F w d u
 | [],k,rows,h=>by
   cases h;refine⟨rfl,by simp,by simp,by simp,fun i j d h=>by simp[XV]at h⟩
 | (i0, x) ::l,k,rows,h=>by
   unfold WE at h;split at h
   .rename_i hk;subst hk;split at h
    .rename_i r rs hr hrs;split at h
     .rename_i hsz;cases h;obtain⟨h1,h2,h3,h4,h5⟩:=X2C hg l _ _ hrs;simp only[Option.bind_eq_some_iff]at hr;obtain⟨cs,hcs,hds⟩:=hr;have hc:=(hg x).cells hcs;have hcs':=Zh cs r hds;subst hcs';have hlen:(Y x).cells.size=size:=by rw[hc.1,D6,hsz.1]
      have hall:∀u∈(Y x).cells.toList,u.oneCell'=true:=by
       intro u hu;obtain⟨j,hj⟩:=Nu.1 hu;have hj':(Y x).cells[j]? =some u:=by simpa using hj
       have hjl:j<r.length:=by
        have:=(NO.1 hj').1;rw[hc.1,D6]at this;exact this
       have hcr:=hc.2 j (.c r[j]) u (by simp[hjl]) hj';refine Xo.one (x:=.c r[j]) ?_ hcr;exact Nh.1 hsz.2 _ (Di hjl)
      refine⟨by simp[h1],?_,?_,?_,?_⟩
      .intro r' hr';rcases Ni.1 hr' with rfl|hr'
       .exact hsz.1
       exact h2 r' hr'
      .simp only[Na,List.zipIdx_cons];rw[h3]
      .intro y hy;rcases Ni.1 hy with rfl|hy
       .exact⟨hlen,hall⟩
       exact h4 y hy
      intro i j d hd;cases i with
      | zero=>
        simp only[XV,List.getElem?_cons_zero,Option.bind_some]at hd;have hjl:j<r.length:=(N5.1 hd).1;have hjv:j<(Y x).cells.size:=by rw[hlen,<-hsz.1];exact hjl
        refine⟨(Y x).cells[j],?_,?_⟩
        .simp[XV,hjv]
        exact hc.2 j (.c d) _ (by simp[hd]) (by simp[hjv])
      | succ i=>
        obtain⟨u,hu,hr'⟩:=h5 i j d (by simpa[XV]using hd);exact⟨u,by simpa[XV]using hu,hr'⟩
     cases h
    cases h
   cases h
theorem X4R {g:Operand->RV} {l:List (Nat×Operand)} {n:Nat} (h:X0O g l=some n):∃x,l=[(0,x)]/\g x=.v (.one (.own n)):=by
 unfold X0O at h;split at h
 .rename_i x;split at h
  .rename_i m hg;cases h;exact⟨x,rfl,hg⟩
  cases h
 cases h
theorem X5J {objs:List (Nat×Ob)} {g:Operand->RV} {Y:Operand->Value} {o:Oper} {d:Nat} {r:RV} {ob:Option Ob} (hh:HeapRel w0 B U F T objs w)
  (hg:∀x,X9 F T w (g x) (Y x)) (hm:∀x,¬(g x).men d) (hd:∀n o,lkp objs n=some o->n≠d/\¬o.men d) (hd6:d<1000000) (h:evA P g d o.op=some (r,ob)):
  ∃ob',ob=some ob'/\∃v w',(execOp Y o).run P w=.ok (.value v) w'/\HeapRel w0 B U F (upd T d v) (ins d ob' objs) w'/\X9 F (upd T d v) w' r v/\
   w.heap.size<=w'.heap.size/\(∀b,b<w.heap.size->w'.heap[b]? =w.heap[b]?):=by
 unfold execOp;generalize o.op=op at*;cases op<;>simp only[evA]at h
 case alloc e=>
  split at h
  .rename_i ti hti;cases h;obtain⟨i,td,z,hi,htd,hz,h1,h2,h3,h4,h5⟩:=XD hti;refine⟨_,rfl,.pointer (some ⟨w.heap.size,0,none⟩),w.alloc (.cells z.cells e),by simp[Instr.alloc,zeroValue,typeInfo,hi,hz,newVar,newRow],?_,?_,by simp,fun b hb=>Below.heap_alloc w _ b hb⟩
   .refine hh.alloc hd hd6 (fun b hb=>by cases hb;rfl) ⟨w.heap.size,e,z.cells,rfl,fun hb=>De _ (hh.hB _ hb),heap_alloc_new w _,?_⟩;rw[h4];exact Xi.ofLits _
   exact⟨w.heap.size,by rw[XH],rfl⟩
  cases h
 case box e x=>
  split at h
  .rename_i cs hcs;cases h;have hc:=(hg x).cells hcs;refine⟨_,rfl,.pointer (some ⟨w.heap.size,0,none⟩),w.alloc (.cells (Y x).cells e),by simp[Instr.box,newVar,newRow],?_,?_,by simp,fun b hb=>Below.heap_alloc w _ b hb⟩
   .refine hh.alloc hd hd6 (fun b hb=>by cases hb;rfl) ⟨w.heap.size,e,(Y x).cells,rfl,fun hb=>De _ (hh.hB _ hb),heap_alloc_new w _,?_⟩;refine Xi.upd ?_ (hc.mono (fun _ h=>h) fun b hb=>Below.heap_alloc w _ b (hh.fsz b hb));rintro⟨y,hy,hyd⟩;refine hm x ?_;unfold cellsOf at hcs;split at hcs
    .rename_i y' hgx;split at hcs
     .cases hcs;simp only[NS]at hy;subst hy;rw[hgx];exact hyd
     cases hcs
    .rename_i xs hgx;cases hcs;rw[hgx];exact⟨y,hy,hyd⟩
    cases hcs
   exact⟨w.heap.size,by rw[XH],rfl⟩
  cases h
 case buildSlice t len parts=>
  split at h
  .rename_i e he;split at h
   .rename_i ti hti;split at h
    .rename_i hcond;obtain⟨hpos,hlen,hbig,hzl⟩:=hcond;obtain⟨i,td,z,hi,htd,hz,h1,h2,h3,h4,h5⟩:=XD hti;have hu:=Qq he;split at h
     case h_2=>
      split at h
      .rename_i _ n hsz1 hown;cases h;obtain⟨x,hpx,hgx⟩:=X4R hown;have hx:=hg x;rw[hgx]at hx;obtain⟨hv,h1c⟩:=hx;have hmn:¬n=d:=by have:=hm x;rw[hgx]at this;exact this
       have hpa:parts= #[(0,x)]:=Array.ext' hpx;subst hpa;have hzs:z.cells.size=1:=by rw[<-Array.length_toList,<-h4,hzl,hsz1]
       refine⟨_,rfl,.slice (some ⟨w.heap.size,0,none⟩) 1 1,w.alloc (.cells #[Y x] e),?_,?_,⟨by rw[XH];rfl,rfl⟩,by simp,fun b hb=>Below.heap_alloc w _ b hb⟩
       .have hz0:(zeroValue e).run P w=.ok z w:=by simp[zeroValue,typeInfo,hi,hz]
        have hcx:(Y x).cells= #[Y x]:=X0b h1c;have hr1:(Array.range 1)= #[0]:=by decide
        simp[Instr.buildSlice,run_underlying hu,sizeOf,typeInfo,hi,h1,hsz1,hz0,newRow];simp[Instr.fill,hcx];rw[hr1];simp
       refine hh.alloc hd hd6 (fun b hb=>by cases hb;rfl) ⟨w.heap.size,rfl,fun hb=>De _ (hh.hB _ hb),?_⟩;rw[heap_alloc_new];simp only[Na,Nb,Xq _ hmn,<-hv]
      cases h
     rename_i rows hrows;cases h;obtain⟨r1,r2,r3,r4,r5⟩:=X2C hg parts.toList 0 rows hrows;have hzs:z.cells.size=ti.size:=by rw[<-hzl,h4];simp
     obtain⟨out,ho,hol⟩:=X8h ti.size (parts.toList.map fun x=>Y x.2) 0 ((Array.range (len*ti.size)).map (z.cells[· %z.cells.size]!)) (by
      intro v hv;obtain⟨x,hx,rfl⟩:=NN.1 hv
      exact(r4 x hx).1) (by simp[hlen])
     have hout:out.toList=((parts.toList.map fun x=>Y x.2).map fun v=>v.cells.toList).flatten:=by
      rw[hol];simp[hlen]
     have hrl:∀r∈(parts.toList.map fun x=>Y x.2).map fun v=>v.cells.toList,r.length=ti.size:=by
      intro r hr;obtain⟨v,hv,rfl⟩:=NN.1 hr;obtain⟨x,hx,rfl⟩:=NN.1 hv;simpa using(r4 x hx).1
     have hosz:out.size=len*ti.size:=by
      rw[<-Array.length_toList,hout,X3H _ hrl];simp[hlen]
     have hrowlen:rows.length=len:=by rw[r1,hlen];simp
     refine⟨_,rfl,.slice (some ⟨w.heap.size,0,none⟩) len len,w.alloc (.cells out e),?_,?_,?_,by simp,fun b hb=>Below.heap_alloc w _ b hb⟩
     .have hparts:(parts.map fun(x:Nat×Operand)=>(x.1,Y x.2)).toList=((parts.toList.map fun x=>Y x.2).zipIdx 0).map fun x=>(x.2,x.1):=by
       rw[Array.toList_map];exact r3
      have hlt:¬16777216<len*ti.size:=by omega
      rw[<-hparts]at ho;have hz0:(zeroValue e).run P w=.ok z w:=by simp[zeroValue,typeInfo,hi,hz]
      simp only[Array.toList_map]at ho;simp[Instr.buildSlice,run_underlying hu,sizeOf,typeInfo,hi,h1,hlt,hz0,ho,newRow];intro h0
      have hl0:len=0:=by
       rcases Nat.eq_zero_or_pos len with h|h
       .exact h
       exact absurd h0 (Nat.ne_of_gt (Nat.mul_pos h hpos))
      have h9:parts.size=0:=hlen.symm.trans hl0;have hp0:parts.toList=[]:=Np (by simpa using h9)
      have hout0:out= #[]:=by
       apply Array.ext';rw[hout,hp0];rfl
      have he0:Array.map (fun _=>(default:Value)) (Array.range 0)= #[]:=Array.eq_empty_of_size_eq_zero (by simp);simp[hp0,Instr.fill,hl0,hout0,he0]
     .refine hh.alloc hd hd6 (fun b hb=>by cases hb;rfl) ⟨hpos,r2,out.toList,?_,?_,?_⟩
      .have:=World.ownsRow_lit (size:=ti.size) (base:=0) (e:=e) w out len (Nc _) (by unfold maxLen;have:=Nat.le_mul_of_pos_right len hpos;omega) hosz;rw[hrowlen];exact Qu.of_row this fun b hb h=>by cases hb;exact De _ (hh.hB _ h)
      .intro u hu;rw[hout]at hu;obtain⟨l,hl,hul⟩:=List.mem_flatten.1 hu;obtain⟨v,hv,rfl⟩:=NN.1 hl;obtain⟨x,hx,rfl⟩:=NN.1 hv;exact(r4 x hx).2 u hul
      intro i j dd hdd;obtain⟨u,hu',hr'⟩:=r5 i j dd hdd;have hj:=(Wq r2 hdd).2;refine⟨u,?_,hr'.mono (fun _ h=>h) fun b hb=>Below.heap_alloc w _ b (hh.fsz b hb)⟩;rw[hout,X7S _ hrl i j hj,List.map_map];exact hu'
     exact⟨by rw[XH];rfl,rfl⟩
    cases h
   cases h
  cases h
 case makeSlice t l c=>
  split at h
  .rename_i e n m he hl hc;split at h
   .rename_i ti hti;split at h
    .rename_i hcond;obtain⟨hpos,hn0,hnm,hmax,hby,hzl,hz1⟩:=hcond;cases h;obtain⟨i,td,z,hi,htd,hz,h1,h2,h3,h4,h5⟩:=XD hti;have hu:=Qq he;have el:=X9.lit_eq hl (hg l);have ec:=X9.lit_eq hc (hg c);subst hnm;obtain⟨k,rfl⟩:=Int.eq_ofNat_of_zero_le hn0;have hzs:z.cells.size=ti.size:=by rw[<-hzl,h4];simp
     obtain⟨w',hrun,hown,hgr⟩:=run_make_full (P:=P) w 0 t e i z ti.size hu hi hz h1 .i64 .i64 k (by
      rw[h2];have:((ti.bytes*k:Nat):Int)<=281474976710656:=by rw[Int.natCast_mul];exact hby
      omega) (by omega) (Nc _)
     have hrows:∀r∈List.replicate k (ti.zero.map CD.lit),r.length=ti.size:=by
      intro r hr;rw[(List.mem_replicate.1 hr).2,D6,hzl]
     refine⟨_,rfl,.slice (some ⟨w.heap.size,0,none⟩) k k,w',by simp[el,ec,hrun],?_,⟨by rw[XH];rfl,rfl⟩,hgr.size,fun b hb=>hgr.block b hb (by simp)⟩;refine hh.made hd (hh.below.grown hgr hh.hB (by simp)) hgr.size (fun b hb=>hgr.block b hb (by simp)) (fun b hb=>by cases hb;exact ND _) hd6 ⟨hpos,hrows,_,by simpa using Qu.of_row hown fun b hb h=>by cases hb;exact De _ (hh.hB _ h),?_,?_⟩
     .intro u hu';simp only[madeCells,Array.toList_map,NN]at hu';obtain⟨j,_,rfl⟩:=hu';have hlt:j%z.cells.size<z.cells.size:=Nat.mod_lt _ (by omega);rw[getElem!_pos z.cells _ hlt];rw[h4]at hz1;exact Nh.1 hz1 _ (by simp)
     intro i' j d' hd';obtain⟨hi',hj⟩:=Wq hrows hd';simp only[List.length_replicate]at hi'
     have hd2:(ti.zero.map CD.lit)[j]? =some d':=by
      unfold XV at hd';rw[List.getElem?_replicate,N9 (by simpa using hi')]at hd';exact hd'
     rw[h4,Nf]at hd2;simp only[N8]at hd2;obtain⟨u,hu',rfl⟩:=hd2;refine⟨u,?_,CRel.lit u⟩
     have hlt:i'*ti.size+j<k*ti.size:=by
      have:(i'+1)*ti.size<=k*ti.size:=NI _ hi';rw[NJ]at this;omega
     have hmod:(i'*ti.size+j)%z.cells.size=j:=by rw[hzs,Nat.mul_comm,Nat.mul_add_mod,Nat.mod_eq_of_lt hj]
     have hjz:j<z.cells.size:=by omega
     have hzj:z.cells[j]=u:=by
      have:z.cells.toList[j]? =some u:=hu';simpa[hjz]using this
     simp[madeCells,hlt,hmod,hjz,hzj]
    cases h
   cases h
  cases h
 case makeMap t r=>
  cases r with
  |some x=>cases h
  | none=>
    cases h;refine⟨_,rfl,.map (some w.heap.size),w.alloc (.map #[] 0),by simp[Instr.makeMap],?_,⟨by rw[XH];rfl,rfl⟩,by simp,fun b hb=>Below.heap_alloc w _ b hb⟩;refine hh.alloc hd hd6 (fun b hb=>by cases hb;rfl) ⟨w.heap.size, #[],0,rfl,fun hb=>De _ (hh.hB _ hb),heap_alloc_new w _,rfl,WV.nil 0,by simp⟩
 case range t x=>
  split at h
  .rename_i hmt
   have hu:∃k e,P.underlying t=some (.map k e):=by
    unfold isMapT at hmt;split at hmt
    .exact⟨_,_,by assumption⟩
    cases hmt
   obtain⟨kt,et,hu⟩:=hu;have hx:=hg x;split at h
   .rename_i l hgx;cases h;rw[hgx]at hx;have hx':CRel F w (.mp l) (Y x):=hx;generalize hv:Y x=v at hx';cases hx' with
    | mnil=>
      refine⟨_,rfl,.pointer (some ⟨w.heap.size,0,none⟩),w.alloc (.mapIter none 0 #[] 0),by simp[Instr.range,hv,run_underlying hu],?_,?_,by simp,fun b hb=>Below.heap_alloc w _ b hb⟩
      .exact hh.alloc hd hd6 (fun b hb=>by cases hb;rfl) ⟨w.heap.size,rfl,fun hb=>De _ (hh.hB _ hb),.inl ⟨rfl,heap_alloc_new w _⟩⟩
      exact⟨w.heap.size,by rw[XH],rfl⟩
    | mp _ m es clock hF hb hk hn hr=>
      have hm:m<w.heap.size:=hh.fsz m hF;have hkp:(w.alloc (.mapIter (some m) clock #[] clock)).heap[m]? =w.heap[m]? :=Below.heap_alloc w _ m hm;refine⟨_,rfl,.pointer (some ⟨w.heap.size,0,none⟩),w.alloc (.mapIter (some m) clock #[] clock),by simp[Instr.range,hv,run_underlying hu,MapKept.run_getObj_map hb],?_,?_,by simp,fun b hb=>Below.heap_alloc w _ b hb⟩
      .refine hh.alloc hd hd6 (fun b hb=>by cases hb;rfl) ⟨w.heap.size,rfl,fun hb=>De _ (hh.hB _ hb),.inr ⟨m,es,clock, #[],heap_alloc_new w _,hF,hkp.trans hb,hk,hn,fun j k d e h1 h2=>?_,rfl⟩⟩;exact(hr j k d e h1 h2).mono (fun _ h=>h) fun b hb=>Below.heap_alloc w _ b (hh.fsz b hb)
      exact⟨w.heap.size,by rw[XH],rfl⟩
   .rename_i hgx;cases h;rw[hgx]at hx;have hv:Y x=.map none:=X9.lit_eq rfl hx;refine⟨_,rfl,.pointer (some ⟨w.heap.size,0,none⟩),w.alloc (.mapIter none 0 #[] 0),by simp[Instr.range,hv,run_underlying hu],?_,?_,by simp,fun b hb=>Below.heap_alloc w _ b hb⟩
    .exact hh.alloc hd hd6 (fun b hb=>by cases hb;rfl) ⟨w.heap.size,rfl,fun hb=>De _ (hh.hB _ hb),.inl ⟨rfl,heap_alloc_new w _⟩⟩
    exact⟨w.heap.size,by rw[XH],rfl⟩
   cases h
  cases h
 all_goals cases h
end
section
variable {P:Program} {F:Nat->Prop} {T:Nat->Value} {w w' w0:World} {B:Nat->Prop} {U:Nat->Option Value}
theorem ZX {t:TypeId} {ti:TI} (hti:Q8 P t=some ti) {b o:Nat} {cells:Nat->Value} {xs:List CV} {r:RV}
  (hc:∀(j:Nat) x,xs[j]? =some x->w.cell? ⟨b,o+j,none⟩=some (cells j)) (hr:∀(j:Nat) x,xs[j]? =some x->Xo F T w x (cells j))
  {off:Nat} (h:Ws ti xs off=some r):∃v,(loadVar t ⟨b,o+off,none⟩).run P w=.ok v w/\X9 F T w r v:=by
 obtain⟨i,d,z,hi,hd,hz,h1,h2,h3,h4,h5⟩:=XD hti;unfold Ws at h;unfold loadVar;by_cases ha:ti.agg=true
 .rw [N9 ha]at h;by_cases hle:off+ti.size<=xs.length
  .rw[N9 hle]at h;cases h
   have hcs:(loadCells ⟨b,o+off,none⟩ ti.size).run P w=.ok ((List.range ti.size).map fun j=>cells (off+j)).toArray w:=by
    refine run_loadCells (P:=P) w _ _ (fun j=>cells (off+j)) fun j hj=>?_;rw[QI,Df];exact hc (off+j) xs[off+j] (by simp)
   refine⟨.agg ((List.range ti.size).map fun j=>cells (off+j)).toArray,?_,_,rfl,by simp;omega,fun j x u hx hu=>?_⟩
   .simp[Wi hd,<-h3,ha,XC hi,h1,hcs]
   rw[Nv]at hx;split at hx
   .rw[No]at hx;rename_i hj;simp[hj]at hu;subst hu;exact hr _ x hx
   cases hx
  rw[N6 hle]at h;cases h
 rw[N6 ha]at h;cases hx:xs[off]? with
 |none=>simp[hx]at h
 | some x=>
   simp only[hx]at h;cases h;refine⟨cells off,?_,hr off x hx⟩;simp[Wi hd,<-h3,ha,hc off x hx]
theorem X7Q {t e:TypeId} {ti:TI} (hti:Q8 P t=some ti) {s b oo len cap i off:Nat} {rows:List (List CD)} {rr:List CD} {r:RV} (hro:Xm F w B e s (.slice (some ⟨b,oo,none⟩) len cap) rows)
  (hrr:rows[i]? =some rr) (h:Ws ti (rr.map .c) off=some r):∃v,(loadVar t ⟨b,oo+(i*s+off),none⟩).run P w=.ok v w/\X9 F T w r v:=by
 rw[<-Nat.add_assoc];obtain⟨h0,hss,xs,hown,h1,hc⟩:=hro;have hcell:=hown.cells;refine ZX (F:=F) (T:=T) (w:=w) hti (b:=b) (o:=oo+i*s) (cells:=fun j=>xs.getD (i*s+j) undef) (xs:=rr.map .c) (fun j x hx=>?_) (fun j x hx=>?_) h
 .rw[Nf]at hx;simp only[N8]at hx;obtain⟨d,hd,rfl⟩:=hx;obtain⟨u,hu,hr⟩:=hc i j d (by simp[XV,hrr,hd]);have:=hcell _ u hu;rw[QI,<-Nat.add_assoc]at this;simp[this,hu]
 rw[Nf]at hx;simp only[N8]at hx;obtain⟨d,hd,rfl⟩:=hx;obtain⟨u,hu,hr⟩:=hc i j d (by simp[XV,hrr,hd]);simp only[List.getD,hu,Option.getD_some];exact hr
theorem X2D {objs:List (Nat×Ob)} (hh:HeapRel w0 B U F T objs w) {n:Nat} {e e':TypeId} {s:Nat} {rows:List (Option (List (List CD)))} (hl:lkp objs n=some (.mat e e' s rows)):
  ∃(o:Value) (is xs:List Value),T n=.agg (o::is).toArray/\0<s/\is.length=rows.length/\Qu w B e 1 o rows.length xs/\
   (∀(i:Nat) v r,is[i]? =some v->rows[i]? =some r->xs[i]? =some (X17 v r))/\(∀(i:Nat) v r,is[i]? =some v->rows[i]? =some r->InRel F w B e' s v r):=by
 obtain⟨o,is,hγ,h0,hlen,⟨xs,hown,hxs⟩,hin,_⟩:=hh.ob n _ hl;exact⟨o,is,xs,hγ,h0,hlen,hown,hxs,hin⟩
theorem X6h {objs:List (Nat×Ob)} (hh:HeapRel w0 B U F T objs w) {n i:Nat} {e e':TypeId} {s:Nat} {rows:List (Option (List (List CD)))} (hl:lkp objs n=some (.mat e e' s rows)) {rs:List (List CD)} (hr:rows[i]? =some (some rs))
  {vs:Array Value} {v:Value} (hvs:T n=.agg vs) (hv:vs[i+1]? =some v):Xm F w B e' s v rs:=by
 obtain⟨o,is,xs,hγ,_,hlen,_,_,hin⟩:=X2D hh hl;rw[hγ]at hvs;cases hvs;exact hin i v _ (by simpa using hv) hr
theorem X2r {objs:List (Nat×Ob)} (hh:HeapRel w0 B U F T objs w) {n:Nat} {e:TypeId} {ms:List (Option (List (Value×CD)))} (hl:lkp objs n=some (.mps e ms)):
  ∃(o:Value) (is xs:List Value),T n=.agg (o::is).toArray/\is.length=ms.length/\Qu w B e 1 o ms.length xs/\
   (∀(i:Nat) v r,is[i]? =some v->ms[i]? =some r->xs[i]? =some (X0E v r))/\(∀(i:Nat) v r,is[i]? =some v->ms[i]? =some r->InMp F w B v r):=by
 obtain⟨o,is,hγ,hlen,⟨xs,hown,hxs⟩,hin,_⟩:=hh.ob n _ hl;exact⟨o,is,xs,hγ,hlen,hown,hxs,hin⟩
theorem sub_map {objs:List (Nat×Ob)} (hh:HeapRel w0 B U F T objs w) {n i:Nat} {e:TypeId} {ms:List (Option (List (Value×CD)))} (hl:lkp objs n=some (.mps e ms)) {l:List (Value×CD)} (hr:ms[i]? =some (some l))
  {vs:Array Value} {v:Value} (hvs:T n=.agg vs) (hv:vs[i+1]? =some v):X0M F w B v l:=by
 obtain⟨o,is,xs,hγ,hlen,_,_,hin⟩:=X2r hh hl;rw[hγ]at hvs;cases hvs;exact hin i v _ (by simpa using hv) hr
theorem X3s {t:TypeId} {kd:TypeDesc} {z:Value} (h:mapT P t=some (kd,z)):∃k e,P.underlying t=some (.map k e)/\P.underlying k=some kd/\(∀w:World,(zeroValue e).run P w=.ok z w)/\X43 kd=true:=by
 unfold mapT at h;split at h
 .rename_i k e hu;split at h
  .rename_i kd' z' hk hz;split at h
   .rename_i hc;cases h;refine⟨k,e,hu,hk,fun w=>?_,hc⟩;simp only[Option.bind_eq_some_iff]at hz;obtain⟨i,hi,hz⟩:=hz;simp[zeroValue,typeInfo,hi,hz]
   cases h
  cases h
 cases h
theorem Zb {kd:TypeDesc} {kv:Value}:∀{l:List (Value×CD)} {es:List MapEntry} {r:Option CD} (i:Nat),es.map (·.key)=l.map (·.1)->(∀(j:Nat) k d e,l[j]? =some (k,d)->es[j]? =some e->CRel F w d e.val)->X0t kd kv l=some r->
  match r with
  |some d=>∃j v,Instr.findNow kd kv es i=some (some (j,v))/\CRel F w d v
  |none=>Instr.findNow kd kv es i=some none
 |[],[],r,i,_,_,h=>by cases h;rfl
 |[],e::es,r,i,hk,_,h=>by simp at hk
 |(k,d)::l,[],r,i,hk,_,h=>by simp at hk
 | (k, d)::l,e::es,r,i,hk,hr,h=>by
   simp only[Na,List.cons.injEq]at hk;unfold X0t at h;unfold Instr.findNow;rw[hk.1];cases hs:Instr.sameNow kd kv k with
   |none=>rw[hs]at h;cases h
   | some b=>
     rw[hs]at h;cases b with
     | true=>
       cases h;exact⟨i,e.val,rfl,hr 0 k d e rfl rfl⟩
     |false=>exact Zb (i+1) hk.2 (fun j k d e h1 h2=>hr (j+1) k d e h1 h2) h
theorem X4a {kd:TypeDesc} {kv:Value} {d:CD}:∀{l l':List (Value×CD)} {es:List MapEntry} (i:Nat),es.map (·.key)=l.map (·.1)->setM kd kv d l=some l'->
  ∃j v k0,Instr.findNow kd kv es i=some (some (i+j,v))/\j<l.length/\(∃e,es[j]? =some e/\e.key=k0)/\Instr.sameBits 10000 k0 kv=true/\l'=l.set j (kv,d)
 |[],_,_,i,_,h=>by cases h
 |(k,x)::l,l',[],i,hk,h=>by simp at hk
 | (k, x)::l,l',e::es,i,hk,h=>by
   simp only[Na,List.cons.injEq]at hk;unfold setM at h;unfold Instr.findNow;rw[hk.1];cases hs:Instr.sameNow kd kv k with
   |none=>rw[hs]at h;cases h
   | some b=>
     rw[hs]at h;cases b with
     | true=>
       simp only at h;split at h
       .rename_i hb;cases h;exact⟨0,e.val,k,rfl,by simp,⟨e,rfl,hk.1⟩,hb,rfl⟩
       cases h
     | false=>
       simp only[N8]at h;obtain⟨l1,h1,rfl⟩:=h;obtain⟨j,v,k0,h2,h3,h4,h5,h6⟩:=X4a (i+1) hk.2 h1;refine⟨j+1,v,k0,?_,by simpa using h3,by simpa using h4,h5,by rw[h6];rfl⟩;rw[show i+(j+1)=i+1+j by omega];exact h2
theorem Wl {k:TypeId} {kd:TypeDesc} (hk:P.underlying k=some kd) (hp:X43 kd=true) (em:Bool) (v:Value):(Instr.checkKey em 10000 k v).run P w=.ok () w:=by
 show(Instr.checkKey em (9999+1) k v).run P w=_;generalize 9999=n;unfold Instr.checkKey;cases kd<;>simp[X43]at hp<;>cases v<;>simp[run_underlying hk]
theorem X1n {objs:List (Nat×Ob)} {g:Operand->RV} {Y:Operand->Value} {o:Oper} {r:RV} (hh:HeapRel w0 B U F T objs w)
  (hg:∀x,X9 F T w (g x) (Y x)) (h:evR P objs g o.op=some r):
  ∃v,(execOp Y o).run P w=.ok (.value v) w/\X9 F T w r v:=by
 unfold execOp;generalize o.op=op at*;unfold evR at h;split at h
 .-- load
  rename_i t x;have hx:=hg x;split at h
  .rename_i ti n off hti hgx;rw[hgx]at hx;obtain⟨b,hb,hv⟩:=hx;split at h
   .rename_i cs hl;obtain⟨b',e,vs,hb',hB,hh',hc⟩:=hh.ob n _ hl;rw[hb]at hb';cases hb'
    obtain⟨v,hrun,hrel⟩:=ZX (F:=F) (T:=T) (w:=w) hti (b:=b) (o:=0) (cells:=fun j=>vs.getD j undef) (xs:=cs) (fun j x hx=>by
     have hlt:j<vs.size:=by rw[hc.1];exact(N5.1 hx).1
     rw[cell_of_row w b _ vs e (0,0) hh'];simp[hlt]) (fun j x hx=>by
     have hlt:j<vs.size:=by rw[hc.1];exact(N5.1 hx).1
     exact hc.2 j x _ hx (by simp[hlt])) h
    refine⟨v,?_,hrel⟩;rw[Nat.zero_add]at hrun;simp[hv,Instr.loadAt,Instr.sureAddr,hrun]
   cases h
  .rename_i ti n s i off hti hgx;rw[hgx]at hx;obtain⟨b,oo,len,cap,hb,hv⟩:=hx;split at h
   .rename_i e s' rows hl;have hro:Xm F w B e s' (T n) rows:=hh.ob n _ hl;rw[X09 hro.sl]at hb;rw[hb]at hro;split at h
    .rename_i hs;subst hs;split at h
     .rename_i rr hrr;obtain⟨v,hrun,hrel⟩:=X7Q (T:=T) hti hro hrr h;refine⟨v,?_,hrel⟩;simp[hv,Instr.loadAt,Instr.sureAddr,hrun]
     cases h
    cases h
   .rename_i e e' s2 rows hl;split at h
    .rename_i hc;obtain⟨rfl,rfl,hag⟩:=hc;obtain⟨o,is,xs,hγ,h0,hlen,hown,hxs,hin⟩:=X2D hh hl;rw[hγ]at hb;have hbo:o=.slice (some ⟨b,oo,none⟩) len cap:=hb;obtain⟨i',d',z,hi,hdd,hz,h1,h2,h3,h4,h5⟩:=XD hti
     have hld:∀(v:Value) (r:Option (List (List CD))),is[i]? =some v->rows[i]? =some r->(loadVar t ⟨b,oo+(i*1+0),none⟩).run P w=.ok (X17 v r) w:=by
      intro v r hiv hr;have hc:=(hbo▸hown).cells i _ (hxs i v r hiv hr);rw[QI]at hc;simp[loadVar,Wi hdd,<-h3,hag,hc]
     have hex:∀r,rows[i]? =some r->∃v,is[i]? =some v:=by
      intro r hr;have:i<is.length:=by rw[hlen];exact(N5.1 hr).1
      exact⟨is[i],Nr this⟩
     split at h
     .rename_i rs hrs;cases h;obtain⟨v,hiv⟩:=hex _ hrs;refine⟨v,?_,_,hγ,by simpa using hiv,by obtain⟨_,_,_,rfl⟩:=Xm.sl (hin i v _ hiv hrs);exact⟨rfl,by simp[undef]⟩⟩;have:=hld v _ hiv hrs;simp only[X17]at this;simp[hv,Instr.loadAt,Instr.sureAddr,-Nat.mul_one,-Nat.add_zero,this]
     .rename_i hrs;cases h;obtain⟨v,hiv⟩:=hex _ hrs;refine⟨XR,?_,X9.mkLit _⟩;have:=hld v _ hiv hrs;simp only[X17]at this;simp[hv,Instr.loadAt,Instr.sureAddr,-Nat.mul_one,-Nat.add_zero,this]
     cases h
    cases h
   .rename_i e ms hl;split at h
    .rename_i hc;obtain⟨rfl,rfl,hag⟩:=hc;obtain⟨o,is,xs,hγ,hlen,hown,hxs,hin⟩:=X2r hh hl;rw[hγ]at hb;have hbo:o=.slice (some ⟨b,oo,none⟩) len cap:=hb;obtain⟨i',d',z,hi,hdd,hz,h1,h2,h3,h4,h5⟩:=XD hti
     have hld:∀(v:Value) (r:Option (List (Value×CD))),is[i]? =some v->ms[i]? =some r->(loadVar t ⟨b,oo+(i*1+0),none⟩).run P w=.ok (X0E v r) w:=by
      intro v r hiv hr;have hc:=(hbo▸hown).cells i _ (hxs i v r hiv hr);rw[QI]at hc;simp[loadVar,Wi hdd,<-h3,hag,hc]
     have hex:∀r,ms[i]? =some r->∃v,is[i]? =some v:=by
      intro r hr;have:i<is.length:=by rw[hlen];exact(N5.1 hr).1
      exact⟨is[i],Nr this⟩
     split at h
     .rename_i rs hrs;cases h;obtain⟨v,hiv⟩:=hex _ hrs;refine⟨v,?_,_,hγ,by simpa using hiv,by obtain⟨_,_,_,rfl,_⟩:=hin i v _ hiv hrs;exact⟨rfl,by simp[undef]⟩⟩;have:=hld v _ hiv hrs;simp only[X0E]at this;simp[hv,Instr.loadAt,Instr.sureAddr,-Nat.mul_one,-Nat.add_zero,this]
     .rename_i hrs;cases h;obtain⟨v,hiv⟩:=hex _ hrs;refine⟨.map none,?_,X9.mkLit _⟩;have:=hld v _ hiv hrs;simp only[X0E]at this;simp[hv,Instr.loadAt,Instr.sureAddr,-Nat.mul_one,-Nat.add_zero,this]
     cases h
    cases h
   cases h
  .rename_i ti n s i j off hti hgx;rw[hgx]at hx;obtain⟨vs,b,oo,len,cap,hvs,hb,hv⟩:=hx;split at h
   .rename_i e e' s' rows hl;split at h
    .rename_i hs;subst hs;split at h
     .rename_i rs hrs;split at h
      .rename_i rr hrr;obtain⟨v,hrun,hrel⟩:=X7Q (T:=T) hti (X6h hh hl hrs hvs hb) hrr h;refine⟨v,?_,hrel⟩;simp[hv,Instr.loadAt,Instr.sureAddr,hrun]
      cases h
     cases h
    cases h
   cases h
  .rename_i ti cs hti hgx;rw[hgx]at hx;obtain⟨b,o',cells,hv,hF,hc,h1,hr⟩:=CRel.ptr_inv (show CRel F w (.ptr cs) (Y x) from hx)
   obtain⟨v,hrun,hrel⟩:=ZX (F:=F) (T:=T) (w:=w) hti (b:=b) (o:=o') (cells:=cells) (xs:=cs.map .c) (fun j x hx=>by
    rw[Nf]at hx;simp only[N8]at hx;obtain⟨d,hd,rfl⟩:=hx;exact hc j d hd) (fun j x hx=>by
    rw[Nf]at hx;simp only[N8]at hx;obtain⟨d,hd,rfl⟩:=hx
    exact hr j d hd) h
   refine⟨v,?_,hrel⟩;rw[Nat.add_zero]at hrun;simp[hv,Instr.loadAt,Instr.sureAddr,hrun]
  cases h
 .-- indexAddr
  rename_i t x i;have hx:=hg x;split at h
  .rename_i k hk;have ek:=X9.lit_eq hk (hg i);split at h
   .rename_i hk0;obtain⟨m,rfl⟩:=Int.eq_ofNat_of_zero_le hk0;simp only[Int.toNat_natCast]at h;split at h
    .rename_i e he;have hu:=Qq he;split at h
     .rename_i ti s rows hti hgx;obtain⟨i',d',z,hi,hd,hz,h1,h2,h3,h4,h5⟩:=XD hti;split at h
      .rename_i hs;subst hs;split at h
       .rename_i rr hrr;cases h;rw[hgx]at hx;have hlt:m<rows.length:=(N5.1 hrr).1;rcases CRel.sl_inv (show CRel F w (.sl ti.size rows) (Y x) from hx)with⟨rfl,_⟩|⟨b,o',cap,cells,hv,hF,hcap,hmax,hs,hc,h1',hr⟩
        .simp at hrr
        refine⟨.pointer (some ⟨b,o'+m*ti.size,none⟩),?_,?_⟩
        .simp[hv,ek,Instr.indexAt,asIntOf,run_underlying hu,hlt,XC hi,h1,QI]
        have hget:∀j d,rr[j]? =some d->XV rows m j=some d:=fun j d hj=>by simp[XV,hrr,hj]
        refine CRel.ptr _ b _ (fun j=>cells m j) hF (fun j d hj=>?_) (fun j d hj=>h1' _ _ d (hget j d hj)) (fun j d hj=>hr _ _ d (hget j d hj));have:=hc m j d (hget j d hj)
        rwa [<-Nat.add_assoc]at this
       cases h
      cases h
     .rename_i ti n hti hgx;obtain⟨i',d',z,hi,hd,hz,h1,h2,h3,h4,h5⟩:=XD hti;rw[hgx]at hx;obtain⟨hv,h1c⟩:=hx;split at h
      .rename_i e' s rows hl;split at h
       .rename_i hs;obtain⟨rfl,hlt⟩:=hs;replace hlt:=X33 hlt;cases h;have hro:Xm F w B e' ti.size (T n) rows:=hh.ob n _ hl;rw[X09 hro.sl]at hv;obtain⟨h0,hss,xs,hown,_⟩:=hro;rcases hown.2 with⟨_,hn⟩|⟨b,oo,cap,cur,hγ,Xy⟩
        .omega
        refine⟨.pointer (some ⟨b,oo+(m*ti.size+0),none⟩),?_,b,oo,_,_,by rw[hγ];rfl,rfl⟩;simp[hv,hγ,ek,Instr.indexAt,asIntOf,run_underlying hu,hlt,XC hi,h1,QI]
       cases h
      .rename_i e1 e' s rows hl;split at h
       .rename_i hs;obtain⟨hs1,hlt⟩:=hs;replace hlt:=X33 hlt;cases h;obtain⟨o,is,xs,hγ,h0,hlen,hown,hxs,hin⟩:=X2D hh hl;have hvo:Y x=o:=by rw[hv,hγ];rfl
        rcases hown.2 with⟨_,hn⟩|⟨b,oo,cap,cur,ho,Xy⟩
        .omega
        refine⟨.pointer (some ⟨b,oo+(m*1+0),none⟩),?_,b,oo,_,_,by rw[hγ];exact ho,rfl⟩;simp[hvo,ho,ek,Instr.indexAt,asIntOf,run_underlying hu,hlt,XC hi,h1,hs1,QI]
       cases h
      .rename_i e1 ms hl;split at h
       .rename_i hs;obtain⟨hs1,hlt⟩:=hs;replace hlt:=X33 hlt;cases h;obtain⟨o,is,xs,hγ,hlen,hown,hxs,hin⟩:=X2r hh hl;have hvo:Y x=o:=by rw[hv,hγ];rfl
        rcases hown.2 with⟨_,hn⟩|⟨b,oo,cap,cur,ho,Xy⟩
        .omega
        refine⟨.pointer (some ⟨b,oo+(m*1+0),none⟩),?_,b,oo,_,_,by rw[hγ];exact ho,rfl⟩;simp[hvo,ho,ek,Instr.indexAt,asIntOf,run_underlying hu,hlt,XC hi,h1,hs1,QI]
       cases h
      cases h
     .rename_i ti n i0 hti hgx;obtain⟨i',d',z,hi,hd',hz,h1,h2,h3,h4,h5⟩:=XD hti;rw[hgx]at hx;obtain⟨vs,hvs,hsub,_⟩:=hx;split at h
      .rename_i e1 e' s rows hl;split at h
       .rename_i rs hrs;split at h
        .rename_i hs;obtain⟨rfl,hlt⟩:=hs;replace hlt:=X33 hlt;cases h;have hro:=X6h hh hl hrs hvs hsub;obtain⟨h0,hss,xs,hown,_⟩:=hro;rcases hown.2 with⟨_,hn⟩|⟨b,oo,cap,cur,hγ,Xy⟩
         .omega
         refine⟨.pointer (some ⟨b,oo+(m*ti.size+0),none⟩),?_,vs,b,oo,_,_,hvs,by rw[hsub,hγ],rfl⟩;simp[hγ,ek,Instr.indexAt,asIntOf,run_underlying hu,hlt,XC hi,h1,QI]
        cases h
       cases h
      cases h
     cases h
    unfold X6j at h;split at h
    .rename_i n e ha;have hu:=X4h ha;split at h
     .rename_i ti hti;obtain⟨i',d',z,hi,hd,hz,h1,h2,h3,h4,h5⟩:=XD hti;split at h
      .rename_i hlt;split at h
       .rename_i n' off hgx;cases h;rw[hgx]at hx;obtain⟨b,hb,hv⟩:=hx;refine⟨.pointer (some ⟨b,off+m*ti.size,none⟩),?_,b,hb,rfl⟩;simp[hv,ek,Instr.indexAt,Instr.sureAddr,asIntOf,run_underlying hu,hlt,XC hi,h1,QI]
       .rename_i n' s i' off hgx;cases h;rw[hgx]at hx;obtain⟨b,oo,len,cap,hb,hv⟩:=hx;refine⟨.pointer (some ⟨b,_,none⟩),?_,b,oo,len,cap,hb,rfl⟩;simp[hv,ek,Instr.indexAt,Instr.sureAddr,asIntOf,run_underlying hu,hlt,XC hi,h1,QI,Df]
       .rename_i cs hgx;cases h;rw[hgx]at hx;obtain⟨b,o',cells,hv,hF,hc,h1',hr⟩:=CRel.ptr_inv (show CRel F w (.ptr cs) (Y x) from hx);refine⟨.pointer (some ⟨b,o'+m*ti.size,none⟩),?_,?_⟩
        .simp[hv,ek,Instr.indexAt,Instr.sureAddr,asIntOf,run_underlying hu,hlt,XC hi,h1,QI]
        refine CRel.ptr _ b _ (fun j=>cells (m*ti.size+j)) hF ?_ ?_ ?_
        .intro j d hj;rw[No]at hj;rw[Df];exact hc _ d hj
        .intro j d hj;rw[No]at hj;exact h1' _ d hj
        intro j d hj;rw[No]at hj;exact hr _ d hj
       cases h
      cases h
     cases h
    cases h
   cases h
  cases h
 .-- len
  rename_i args ts;split at h
  .rename_i t x ht hxx;have hx:=hg x;split at h
   .rename_i e s rows he hgx;cases h;have hu:=Qq he;rw[hgx]at hx;refine⟨_,?_,X9.mkLit _⟩;rcases CRel.sl_inv (show CRel F w (.sl s rows) (Y x) from hx)with⟨rfl,hv|⟨a,c,hv⟩⟩|⟨b,o',cap,cells,hv,_⟩
    .simp[resolve,invoke,builtin,Builtin.len_,ht,hxx,hv,run_underlying hu,goInt]
    .simp[resolve,invoke,builtin,Builtin.len_,ht,hxx,hv,run_underlying hu,goInt]
    simp[resolve,invoke,builtin,Builtin.len_,ht,hxx,hv,run_underlying hu,goInt]
   .rename_i e a n c he hgx;cases h;have hu:=Qq he;rw[hgx]at hx;have hv:Y x=.slice a n c:=X9.lit_eq rfl hx;refine⟨_,?_,X9.mkLit _⟩;simp[resolve,invoke,builtin,Builtin.len_,ht,hxx,hv,run_underlying hu,goInt]
   .rename_i e n he hgx;rw[hgx]at hx;obtain⟨hv,_⟩:=hx;have hu:=Qq he;split at h
    .rename_i e' s rows hl;cases h;have hro:Xm F w B e' s (T n) rows:=hh.ob n _ hl;rw[X09 hro.sl]at hv;obtain⟨h0,hss,xs,hown,_⟩:=hro;refine⟨_,?_,X9.mkLit _⟩;rcases hown.2 with⟨hγ,hn⟩|⟨b,oo,cap,cur,hγ,Xy⟩
     .simp[resolve,invoke,builtin,Builtin.len_,ht,hxx,hv,hγ,hn,run_underlying hu,goInt]
     simp[resolve,invoke,builtin,Builtin.len_,ht,hxx,hv,hγ,run_underlying hu,goInt]
    .rename_i e1 e' s rows hl;cases h;obtain⟨o,is,xs,hγ,h0,hlen,hown,hxs,hin⟩:=X2D hh hl;have hvo:Y x=o:=by rw[hv,hγ];rfl
     refine⟨_,?_,X9.mkLit _⟩;rcases hown.2 with⟨ho,hn⟩|⟨b,oo,cap,cur,ho,Xy⟩
     .simp[resolve,invoke,builtin,Builtin.len_,ht,hxx,hvo,ho,hn,run_underlying hu,goInt]
     simp[resolve,invoke,builtin,Builtin.len_,ht,hxx,hvo,ho,run_underlying hu,goInt]
    .rename_i e1 ms hl;cases h;obtain⟨o,is,xs,hγ,hlen,hown,hxs,hin⟩:=X2r hh hl;have hvo:Y x=o:=by rw[hv,hγ];rfl
     refine⟨_,?_,X9.mkLit _⟩;rcases hown.2 with⟨ho,hn⟩|⟨b,oo,cap,cur,ho,Xy⟩
     .simp[resolve,invoke,builtin,Builtin.len_,ht,hxx,hvo,ho,hn,run_underlying hu,goInt]
     simp[resolve,invoke,builtin,Builtin.len_,ht,hxx,hvo,ho,run_underlying hu,goInt]
    cases h
   .rename_i e n i0 he hgx;rw[hgx]at hx;obtain⟨vs,hvs,hsub,_⟩:=hx;have hu:=Qq he;split at h
    .rename_i e1 e' s rows hl;split at h
     .rename_i rs hrs;cases h;obtain⟨h0,hss,xs,hown,_⟩:=X6h hh hl hrs hvs hsub;refine⟨_,?_,X9.mkLit _⟩;rcases hown.2 with⟨hγ,hn⟩|⟨b,oo,cap,cur,hγ,Xy⟩
      .simp[resolve,invoke,builtin,Builtin.len_,ht,hxx,hγ,hn,run_underlying hu,goInt]
      simp[resolve,invoke,builtin,Builtin.len_,ht,hxx,hγ,run_underlying hu,goInt]
     cases h
    cases h
   .rename_i sb he hgx;split at h
    .rename_i hs;cases h;rw[hgx]at hx;have hv:Y x=.string sb:=X9.lit_eq rfl hx;refine⟨_,?_,X9.mkLit _⟩;simp[resolve,invoke,builtin,Builtin.len_,ht,hxx,hv,run_underlying (X1u hs),goInt]
    cases h
   cases h
  cases h
 .-- lookup
  rename_i t x i ok;split at h
  .rename_i kd z kv l hm hk hmo;obtain⟨k,e,hu,huk,hz,hp⟩:=X3s hm;have ek:=X9.lit_eq hk (hg i);have hx:=hg x
   -- the entries
   have hes:∃es:Array MapEntry,es.toList.map (·.key)=l.map (·.1)/\(∀(j:Nat) k d e,l[j]? =some (k,d)->es[j]? =some e->CRel F w d e.val)/\
     ∀r,Instr.findNow kd kv es.toList 0=some r->(Instr.lookup t (Y x) (Y i) ok).run P w=.ok (if ok=true then .tuple #[(r.map (·.2)).getD z,.bool r.isSome] else(r.map (·.2)).getD z) w:=by
    have fin:∀(es:Array MapEntry),((Y x=.map none/\es= #[])\/∃b clock,Y x=.map (some b)/\w.heap[b]? =some (.map es clock))->
      ∀r,Instr.findNow kd kv es.toList 0=some r->(Instr.lookup t (Y x) (Y i) ok).run P w=.ok (if ok=true then .tuple #[(r.map (·.2)).getD z,.bool r.isSome] else(r.map (·.2)).getD z) w:=by
     intro es hes r hr;rw[ek];rcases hes with⟨hv,rfl⟩|⟨b,clock,hv,hb⟩
     .rw[hv];cases r with
      |none=>cases ok<;>simp[Instr.lookup,run_underlying hu,Wl huk hp,Instr.findKey,run_underlying huk,Instr.findNow,hz]
      |some p=>simp[Instr.findNow]at hr
     rw[hv];cases r with
     |none=>cases ok<;>simp[Instr.lookup,run_underlying hu,MapKept.run_getObj_map hb,Wl huk hp,Instr.findKey,run_underlying huk,hr,hz]
     |some p=>cases ok<;>simp[Instr.lookup,run_underlying hu,MapKept.run_getObj_map hb,Wl huk hp,Instr.findKey,run_underlying huk,hr]
    unfold X5y at hmo;split at hmo
    .rename_i l' hgx;cases hmo;rw[hgx]at hx;have hx':CRel F w (.mp l) (Y x):=hx;generalize Y x=v at hx' fin⊢;cases hx' with
     |mnil=>exact⟨#[],rfl,by simp,fin #[] (.inl ⟨rfl,rfl⟩)⟩
     |mp _ b es clock hF hb hk' hn' hr'=>exact⟨es,hk',hr',fin es (.inr ⟨b,clock,rfl,hb⟩)⟩
    .rename_i hgx;cases hmo;rw[hgx]at hx;have hv:Y x=.map none:=X9.lit_eq rfl hx;exact⟨#[],rfl,by simp,fin #[] (.inl ⟨hv,rfl⟩)⟩
    .rename_i n hgx;split at hmo
     .rename_i l' hl;cases hmo;rw[hgx]at hx;obtain⟨hv,_⟩:=hx;obtain⟨b,es,clock,hγ,hB,hb,hk',hn',hr'⟩:=hh.ob n _ hl;have hv':Y x=.map (some b):=by rw[hv,hγ];rfl
      exact⟨es,hk',hr',fin es (.inr ⟨b,clock,hv',hb⟩)⟩
     cases hmo
    .rename_i n i0 hgx;split at hmo
     .rename_i e1 ms hl;split at hmo
      .rename_i l' hms;cases hmo;rw[hgx]at hx;obtain⟨vs,hvs,hsub,_⟩:=hx;obtain⟨b,es,clock,hv',hB,hb,hk',hn',hr'⟩:=sub_map hh hl hms hvs hsub;exact⟨es,hk',hr',fin es (.inr ⟨b,clock,hv',hb⟩)⟩
      cases hmo
     cases hmo
    cases hmo
   obtain⟨es,he1,he2,hfin⟩:=hes
   have res:∀(d:CD) (v:Value) (b:Bool),CRel F w d v->X9 F T w (X1E ok d b) (if ok=true then .tuple #[v,.bool b] else v):=by
    intro d v b hd;unfold X1E;cases ok with
    | true=>
      refine⟨#[v,.bool b],rfl,rfl,fun j t u ht hu=>?_⟩
      match j with
      |0=>cases ht;cases hu;exact hd
      |1=>cases ht;cases hu;exact CRel.lit _
      |j+2=>simp at ht
    |false=>exact hd
   split at h
   .rename_i d hf;cases h;obtain⟨j,v,h1,h2⟩:=Zb 0 he1 (fun j k d e h1 h2=>he2 j k d e h1 (by simpa using h2)) hf;have:=hfin _ h1;refine⟨_,?_,res d v true h2⟩;rw[Sem.run_bind,this];rfl
   .rename_i hf;cases h;have h1:=Zb 0 he1 (fun j k d e h1 h2=>he2 j k d e h1 (by simpa using h2)) hf;have:=hfin _ h1;refine⟨_,?_,res (.lit z) z false (CRel.lit z)⟩;rw[Sem.run_bind,this];rfl
   cases h
  cases h
 .-- entry
  rename_i x;have hx:=hg x;unfold X28 at h;split at h
  .rename_i n hgx;split at h
   .rename_i l seen hl;split at h
    .rename_i j hj;split at h
     .rename_i k d hkd;cases h;rw[hgx]at hx;obtain⟨b,hγ,hv⟩:=hx;obtain⟨b',hγ',hB,hit⟩:=hh.ob n _ hl;rw[hγ]at hγ';cases hγ';rcases hit with⟨rfl,_⟩|⟨m,es,clock,sn,hhp,hFm,hhm,hk,⟨hp1,hp2⟩,Qw,hsn⟩
      .simp at hkd
      have hlen:es.size=l.length:=by have:=congrArg List.length hk;simpa using this
      obtain⟨e,he⟩:∃e,es[j]? =some e:=⟨es[j]'(by rw[hlen];exact(N5.1 hkd).1),D5 _⟩
      have hkk:e.key=k:=by
       have:=congrArg (·[j]?) hk;simp only[Nf,Dh,he,hkd,Option.map_some,Option.some.injEq]at this;exact this
      obtain⟨s0,rfl⟩:∃s0,seen=s0++[j]:=by
       refine⟨seen.dropLast,?_⟩;have hne:seen≠[]:=by rintro rfl;simp at hj
       rw[List.getLast?_eq_some_getLast hne]at hj;have:=List.dropLast_concat_getLast hne;rw[Option.some.inj hj]at this;exact this.symm
      have hsn2:sn=(s0.filterMap fun j=>(es[j]?).map (·.born)).toArray.push e.born:=by
       apply Array.ext';rw[hsn,Array.toList_push,List.filterMap_append];simp[he]
      rw[hsn2]at hhp
      have hnd:(es.toList.map (·.born)).Nodup:=by
       rw[List.Nodup,List.pairwise_map];exact hp1.imp fun h=>by omega
      have hrun:=run_entry_at (P:=P) w b m clock _ es clock e hhp hhm (Array.mem_toList_iff.2 (Array.mem_of_getElem? he)) hnd;refine⟨.tuple #[e.key,e.val],?_,⟨#[e.key,e.val],rfl,rfl,fun q t u ht hu=>?_⟩⟩
      .simp[hv,hrun]
      match q with
      |0=>cases ht;cases hu;rw[hkk];exact CRel.lit _
      |1=>cases ht;cases hu;exact Qw j k d e hkd he
      |q+2=>simp at ht
     cases h
    cases h
   cases h
  cases h
 cases h
end
section
variable {P:Program} {F:Nat->Prop} {T:Nat->Value} {w w' w0:World} {B:Nat->Prop} {U:Nat->Option Value}
theorem HeapRel.wrote {objs:List (Nat×Ob)} (h:HeapRel w0 B U F T objs w) {n b:Nat} {o0 ob:Ob} (hn:lkp objs n=some o0) (hbn:Blk (T n) b)
  (hb:Kept B w0 w') (hsz:w.heap.size<=w'.heap.size) (hkeep:∀k,k<w.heap.size->k≠b->w'.heap[k]? =w.heap[k]?)
  (hob:Q4 F T w' B (T n) ob):HeapRel w0 B U F T (ins n ob objs) w':=by
 have hF:∀k,F k->w'.heap[k]? =w.heap[k]? :=fun k hk=>hkeep k (h.fsz k hk) fun e=>h.apart n o0 hn b hbn (e▸hk)
 exact {
  below:=hb
  hB:=fun b hb=>NA (h.hB b hb) hsz
  fsz:=fun k hk=>NA (h.fsz k hk) hsz
  ob:=fun m o ho=>by
   rw[Qb]at ho;split at ho
   .rename_i hm;cases ho;subst hm;exact hob
   rename_i hm;have h1:=h.ob m o ho;exact h1.mono (fun _ h=>h) hF fun k hk=>hkeep k (h1.blk_lt hk).2 fun e=>h.sep m n o o0 ho hn hm k hk (e▸hbn)
  apart:=fun m o ho=>by
   rw[Qb]at ho;split at ho
   .rename_i hm;cases ho;subst hm;exact h.apart _ o0 hn
   exact h.apart m o ho
  sep:=fun m k om ok hm hk hne=>by
   have:∀x ox,lkp (ins n ob objs) x=some ox->∃oy,lkp objs x=some oy:=by
    intro x ox hx;rw[Qb]at hx;split at hx
    .rename_i e;subst e;exact⟨o0,hn⟩
    exact⟨ox,hx⟩
   obtain⟨om',hm'⟩:=this m om hm;obtain⟨ok',hk'⟩:=this k ok hk;exact h.sep m k om' ok' hm' hk' hne
  pin:=h.pin}
theorem HeapRel.less {objs objs':List (Nat×Ob)} (h:HeapRel w0 B U F T objs w) (hs:∀n o,lkp objs' n=some o->lkp objs n=some o):HeapRel w0 B U F T objs' w where
 below:=h.below
 hB:=h.hB
 fsz:=h.fsz
 ob n o ho:=h.ob n o (hs n o ho)
 apart n o ho:=h.apart n o (hs n o ho)
 sep n m on om hn hm:=h.sep n m on om (hs n on hn) (hs m om hm)
 pin:=h.pin
theorem Qg {T:Type} {n m:Nat} {l:List (Nat×T)} {o:T} (h:lkp (del n l) m=some o):m≠n/\lkp l m=some o:=by
 rw[ZA]at h;split at h
 .cases h
 rename_i hne;exact⟨hne,h⟩
theorem HeapRel.moved {objs objs':List (Nat×Ob)} (h:HeapRel w0 B U F T objs w) {ns:List Nat} {d:Nat} {ob:Ob} {x:Value} (hns:∀n∈ns,∃o,lkp objs n=some o)
  (hsub:∀m o,lkp objs' m=some o->m∉ns/\lkp objs m=some o)
  (hd:∀n o,lkp objs n=some o->n≠d/\¬o.men d) (hb:Kept B w0 w') (hsz:w.heap.size<=w'.heap.size)
  (hkeep:∀k,k<w.heap.size->(∀n∈ns,¬Blk (T n) k)->w'.heap[k]? =w.heap[k]?) (hx:∀b,Blk x b->w.heap.size<=b\/∃n∈ns,Blk (T n) b) (hd6:d<1000000)
  (hob:Q4 F (upd T d x) w' B x ob):HeapRel w0 B U F (upd T d x) (ins d ob objs') w':=by
 have hF:∀k,F k->w'.heap[k]? =w.heap[k]? :=fun k hk=>hkeep k (h.fsz k hk) fun n hn e=>by
  obtain⟨o0,ho0⟩:=hns n hn;exact h.apart n o0 ho0 k e hk
 exact {
  below:=hb
  hB:=fun b hb=>NA (h.hB b hb) hsz
  fsz:=fun k hk=>NA (h.fsz k hk) hsz
  ob:=fun m o ho=>by
   rw[Qb]at ho;split at ho
   .rename_i hm;cases ho;subst hm;rw[XH];exact hob
   rename_i hm;obtain⟨hne,ho'⟩:=hsub m o ho;rw[Xq _ hm];have h1:=h.ob m o ho';refine(h1.mono (fun _ h=>h) hF fun k hk=>hkeep k (h1.blk_lt hk).2 fun n hn e=>?_).upd (hd m o ho').2;obtain⟨o0,ho0⟩:=hns n hn;exact h.sep m n o o0 ho' ho0 (fun e'=>hne (e'▸hn)) k hk e
  apart:=fun m o ho b hbk hFb=>by
   rw[Qb]at ho;split at ho
   .rename_i hm;rw[hm,XH]at hbk;rcases hx b hbk with h1|⟨n,hn,h1⟩
    .have:=h.fsz b hFb;omega
    obtain⟨o0,ho0⟩:=hns n hn;exact h.apart n o0 ho0 b h1 hFb
   rename_i hm;obtain⟨hne,ho'⟩:=hsub m o ho;rw[Xq _ hm]at hbk;exact h.apart m o ho' b hbk hFb
  sep:=fun m k om ok hm hk hne b hbm hbk=>by
   rw[Qb]at hm hk
   have key:∀y oy,lkp objs' y=some oy->y≠d->Blk x b->Blk (upd T d x y) b->False:=by
    intro y oy hy hyd hxb hyb;obtain⟨hyn,hy'⟩:=hsub y oy hy;rw[Xq _ hyd]at hyb;rcases hx b hxb with h1|⟨n,hn,h1⟩
    .have:=(h.ob y oy hy').blk_lt hyb;omega
    obtain⟨o0,ho0⟩:=hns n hn;exact h.sep y n oy o0 hy' ho0 (fun e'=>hyn (e'▸hn)) b hyb h1
   split at hm
   .rename_i em;split at hk
    .rename_i ek;exact hne (em.trans ek.symm)
    rename_i ek;rw[em,XH]at hbm;exact key k ok hk ek hbm hbk
   rename_i em;split at hk
   .rename_i ek;rw[ek,XH]at hbk;exact key m om hm em hbk hbm
   rename_i ek;rw[Xq _ em]at hbm;rw[Xq _ ek]at hbk;obtain⟨_,hm'⟩:=hsub m om hm;obtain⟨_,hk'⟩:=hsub k ok hk;exact h.sep m k om ok hm' hk' hne b hbm hbk
  pin:=fun n v hv=>by
   obtain⟨h1,h2⟩:=h.pin n v hv
   exact⟨h1,by rw[Xq _ (by omega)];exact h2⟩}
def Grow (a b:Value):Prop:=∃(o:Value) (is js:List Value),a=.agg (o::is).toArray/\b=.agg (o::js).toArray/\∀(k:Nat) v,is[k]? =some v->v≠undef->js[k]? =some v
def Ext (T T':Nat->Value) (d:Option Nat):Prop:=∀n,some n≠d->T' n=T n\/Grow (T n) (T' n)
theorem Grow.hd {a b:Value} (h:Grow a b):Hl.hd b=Hl.hd a:=by
 obtain⟨o,is,js,rfl,rfl,_⟩:=h;rfl
theorem Grow.comp {a b:Value} (h:Grow a b) {vs:Array Value} {k:Nat} {v:Value} (ha:a=.agg vs) (hv:vs[k+1]? =some v) (hu:v≠undef):∃us,b=.agg us/\us[k+1]? =some v:=by
 obtain⟨o,is,js,rfl,rfl,h⟩:=h;cases ha;exact⟨_,rfl,by simpa using h k v (by simpa using hv) hu⟩
theorem Xo.ext {T':Nat->Value} {d:Option Nat} (he:Ext T T' d) {x:CV} {v:Value} (hm:∀e,d=some e->¬x.men e) (h:Xo F T w x v):Xo F T' w x v:=by
 have hn:∀n,(∀e,d=some e->¬n=e)->T' n=T n\/Grow (T n) (T' n):=fun n hn=>he n fun e=>hn n e.symm rfl
 have ptr:∀n b o,(∀e,d=some e->¬n=e)->T n=.pointer (some ⟨b,o,none⟩)->T' n=.pointer (some ⟨b,o,none⟩):=by
  intro n b o hne hp;rcases hn n hne with h|h
  .rw[h,hp]
  obtain⟨_,_,_,h1,_⟩:=h;rw[hp]at h1;cases h1
 have hhd:∀n,(∀e,d=some e->¬n=e)->Hl.hd (T' n)=Hl.hd (T n):=by
  intro n hne;rcases hn n hne with h|h
  .rw[h]
  exact h.hd
 induction x with
 |gd b x ih=>exact⟨fun hb=>ih hm (h.1 hb),h.2⟩
 |any=>trivial
 |c d=>exact h
 |own n=>exact⟨by rw[hhd n hm];exact h.1,h.2⟩
 |at_ n off=>obtain⟨b,h1,h2⟩:=h;exact⟨b,ptr n _ _ hm h1,h2⟩
 |el n s i off=>obtain⟨b,oo,len,cap,h1,h2⟩:=h;exact⟨b,oo,len,cap,by rw[hhd n hm];exact h1,h2⟩
 | sub n i=>
   obtain⟨vs,h1,h2,h3⟩:=h;rcases hn n hm with h|h
   .exact⟨vs,h.trans h1,h2,h3⟩
   obtain⟨us,h4,h5⟩:=h.comp h1 h2 h3.2;exact⟨us,h4,h5,h3⟩
 | el2 n s i j off=>
   obtain⟨vs,b,oo,len,cap,h1,h2,h3⟩:=h;rcases hn n hm with h|h
   .exact⟨vs,b,oo,len,cap,h.trans h1,h2,h3⟩
   obtain⟨us,h4,h5⟩:=h.comp h1 h2 (by simp[undef]);exact⟨us,b,oo,len,cap,h4,h5,h3⟩
 | fn f caps=>
   obtain⟨vs,hv,hl,hc⟩:=h;refine⟨vs,hv,hl,fun j p u hp hu=>?_⟩;obtain⟨b,h1,h2⟩:=hc j p u hp hu;exact⟨b,ptr p.1 _ _ (fun e he' e2=>hm e he' ⟨p,N3 hp,e2⟩) h1,h2⟩
theorem Xi.ext {T':Nat->Value} {d:Option Nat} (he:Ext T T' d) {xs:List CV} {vs:Array Value} (hm:∀e,d=some e->¬ ∃x∈xs,x.men e) (h:Xi F T w xs vs):Xi F T' w xs vs:=
 ⟨h.1,fun j x u hx hu=>(h.2 j x u hx hu).ext he fun e he' hd=>hm e he' ⟨x,N3 hx,hd⟩⟩
theorem XJ.ext {T':Nat->Value} {d:Option Nat} (he:Ext T T' d) {x:TV} {v:Value} (hm:∀e,d=some e->¬x.men e) (h:XJ F T w x v):XJ F T' w x v:=by
 cases x with
 |one x=>exact Xo.ext he hm h
 |agg xs=>obtain⟨vs,rfl,hc⟩:=h;exact⟨vs,rfl,hc.ext he hm⟩
theorem X9.ext {T':Nat->Value} {d:Option Nat} (he:Ext T T' d) {x:RV} {v:Value} (hm:∀e,d=some e->¬x.men e) (h:X9 F T w x v):X9 F T' w x v:=by
 cases x with
 |v t=>exact XJ.ext he hm h
 | tup ts=>
   obtain⟨vs,rfl,hs,hc⟩:=h;exact⟨vs,rfl,hs,fun j t u ht hu=>(hc j t u ht hu).ext he fun e he' hd=>hm e he' ⟨t,N3 ht,hd⟩⟩
theorem Q4.ext {T':Nat->Value} (he:Ext T T' none) {x:Value} {o:Ob} (h:Q4 F T w B x o):Q4 F T' w B x o:=by
 cases o with
 |box cs=>obtain⟨b,e,vs,rfl,hb,hh,hc⟩:=h;exact⟨b,e,vs,rfl,hb,hh,hc.ext he (by simp)⟩
 |row e s rows=>exact h
 |mp l=>exact h
 |mat e e' s rows=>exact h
 | refs e ns=>
   obtain⟨b,rfl,hb,hh⟩:=h;refine⟨b,rfl,hb,?_⟩;rw[hh];congr 3;refine List.map_congr_left fun n _=>?_;rcases he n (by simp)with h|h
   .rw[h]
   exact h.hd.symm
 |mps e ms=>exact h
 |it l seen=>exact h
theorem X6N {n:Nat} {x:Value} (hg:Grow (T n) x):Ext T (upd T n x) none:=by
 intro k _;by_cases e:k=n
 .subst e;rw[XH];exact .inr hg
 rw[Xq _ e];exact .inl rfl
theorem WD {T T':Nat->Value} {d:Option Nat} (h:∀n,some n≠d->T' n=T n):Ext T T' d:=fun n hn=>.inl (h n hn)
theorem HeapRel.joined {objs:List (Nat×Ob)} (h:HeapRel w0 B U F T objs w) {n m:Nat} {on om ob:Ob} {x:Value} (hn:lkp objs n=some on) (hm:lkp objs m=some om) (hne:n≠m) (hg:Grow (T n) x)
  (hb:Kept B w0 w') (hsz:w.heap.size<=w'.heap.size) (hkeep:∀k,k<w.heap.size->¬Blk (T n) k->w'.heap[k]? =w.heap[k]?) (hx:∀b,Blk x b->Blk (T n) b\/Blk (T m) b) (hn6:n<1000000)
  (hob:Q4 F (upd T n x) w' B x ob):HeapRel w0 B U F (upd T n x) (ins n ob (del m objs)) w':=by
 have hF:∀k,F k->w'.heap[k]? =w.heap[k]? :=fun k hk=>hkeep k (h.fsz k hk) fun e=>h.apart n on hn k e hk
 have hlk:∀k o,lkp (ins n ob (del m objs)) k=some o->k≠n->k≠m/\lkp objs k=some o:=by
  intro k o hk hkn;rw[Qb,N6 hkn]at hk;exact Qg hk
 have key:∀y oy b,lkp (ins n ob (del m objs)) y=some oy->y≠n->Blk x b->Blk (T y) b->False:=by
  intro y oy b hy hyn hxb hyb;obtain⟨hym,hy'⟩:=hlk y oy hy hyn;rcases hx b hxb with h1|h1
  .exact h.sep y n oy on hy' hn hyn b hyb h1
  exact h.sep y m oy om hy' hm hym b hyb h1
 exact {
  below:=hb
  hB:=fun b hb=>NA (h.hB b hb) hsz
  fsz:=fun k hk=>NA (h.fsz k hk) hsz
  ob:=fun k o ho=>by
   by_cases hk:k=n
   .subst hk;rw[Qb,N9 rfl]at ho;cases ho;rw[XH];exact hob
   obtain⟨_,ho'⟩:=hlk k o ho hk;rw[Xq _ hk];have h1:=h.ob k o ho';exact(h1.mono (fun _ h=>h) hF fun j hj=>hkeep j (h1.blk_lt hj).2 fun e=>h.sep k n o on ho' hn hk j hj e).ext (X6N hg)
  apart:=fun k o ho b hbk hFb=>by
   by_cases hk:k=n
   .subst hk;rw[XH]at hbk;rcases hx b hbk with h1|h1
    .exact h.apart _ on hn b h1 hFb
    exact h.apart _ om hm b h1 hFb
   rw[Xq _ hk]at hbk;exact h.apart k o (hlk k o ho hk).2 b hbk hFb
  sep:=fun j k oj ok hj hk hjk b hbj hbk=>by
   by_cases ej:j=n
   .rw[ej,XH]at hbj;have ek:k≠n:=fun e=>hjk (ej.trans e.symm);rw[Xq _ ek]at hbk;exact key k ok b hk ek hbj hbk
   rw[Xq _ ej]at hbj;by_cases ek:k=n
   .rw[ek,XH]at hbk;exact key j oj b hj ej hbk hbj
   rw[Xq _ ek]at hbk;exact h.sep j k oj ok (hlk j oj hj ej).2 (hlk k ok hk ek).2 hjk b hbj hbk
  pin:=fun k v hv=>by
   obtain⟨h1,h2⟩:=h.pin k v hv
   exact⟨h1,by rw[Xq _ (by omega)];exact h2⟩}
theorem X6g {g:Nat} (h:Kept B w0 w) (hg:¬B g) (cs:Array Value):Kept B w0 (w.setRow g cs):=
 ⟨h.os,h.tape,h.output,by simpa using h.size,fun k hk=>(setRow_other w g k cs (fun e=>hg (e▸hk))).trans (h.block k hk)⟩
theorem X3R {t:TypeId} {i:TypeInfo} (hi:P.info? t=some i) {v:Value} (hv:v.cells.size=i.size) (h1:∀u∈v.cells.toList,u.oneCell'=true)
  {b off:Nat} {e:TypeId} {cur:Array Value} (hb:w.heap[b]? =some (.cells cur e (0,0))) (hle:off+v.cells.size<=cur.size):
  (storeVar t ⟨b,off,none⟩ v).run P w=.ok () (w.setRow b (cur.toList.take off++v.cells.toList++cur.toList.drop (off+v.cells.toList.length)).toArray):=by
 have:=run_storeCells_at P b off e v.cells.toList 0 cur w hb (by simpa using hle) h1;simp only[Nat.add_zero]at this;simp[storeVar,XC hi,hv,this]
end
section
variable {P:Program} {F:Nat->Prop} {T:Nat->Value} {w w' w0:World} {B:Nat->Prop} {U:Nat->Option Value}
theorem We {T:Type} (xs vs:List T) (off k:Nat) (hle:off+vs.length<=xs.length):
  (xs.take off++vs++xs.drop (off+vs.length))[k]? =if off<=k/\k<off+vs.length then vs[k - off]? else xs[k]? :=by
 have e1:(List.take off xs).length=off:=by rw[Ns];omega
 rw[D7];by_cases h1:k<off
 .rw[Nm (by rw[e1];exact h1),Nv,N9 h1,N6 (by omega)]
 rw[Nl (by rw[e1];omega),e1];by_cases h2:k - off<vs.length
 .rw[Nm h2,N9 (by omega)]
 rw[Nl (by omega),No,N6 (by omega)];congr 1;omega
theorem X4J {rows:List (List CD)} {i off:Nat} {ds:List CD}:(setRow rows i off ds).length=rows.length:=by
 unfold setRow;split<;>simp
theorem X7b {s:Nat} {rows:List (List CD)} (h:∀r∈rows,r.length=s) {i off:Nat} {ds:List CD} (hle:off+ds.length<=s):∀r∈setRow rows i off ds,r.length=s:=by
 unfold setRow;split
 .rename_i r hr;have hrs:=h r (N3 hr);intro r' hr';rcases Dg hr' with h1|h1
  .exact h r' h1
  subst h1;simp[hrs];omega
 exact h
theorem X9a {s:Nat} {rows:List (List CD)} (h:∀r∈rows,r.length=s) {i off:Nat} {ds:List CD} (hle:off+ds.length<=s) (hi:i<rows.length) (i' j:Nat):
  XV (setRow rows i off ds) i' j=if i'=i/\off<=j/\j<off+ds.length then ds[j - off]? else XV rows i' j:=by
 unfold setRow;have hr:rows[i]? =some rows[i]:=Nr hi;rw[hr];have hrs:=h rows[i] (Di hi);unfold XV;rw[D1];by_cases e:i=i'
 .subst e;rw[N9 rfl,N9 hi];simp only[Option.bind_some,true_and];rw[We _ _ _ _ (by omega),hr];rfl
 rw[N6 e,N6 (by intro h;exact e h.1.symm)]
theorem X1e {t:TypeId} {i:TypeInfo} (hi:P.info? t=some i) {v:Value} (hv:v.cells.size=i.size) (h1:∀u∈v.cells.toList,u.oneCell'=true)
  {b off:Nat} {e:TypeId} {cur:Array Value} (hb:w.heap[b]? =some (.cells cur e (0,0))) (hle:off+v.cells.size<=cur.size) (hbw:Kept B w0 w) (hB:¬B b):
  ∃W,(storeVar t ⟨b,off,none⟩ v).run P w=.ok () W/\W.heap[b]? =some (.cells (cur.toList.take off++v.cells.toList++cur.toList.drop (off+v.cells.toList.length)).toArray e (0,0))/\
   (∀k,k≠b->W.heap[k]? =w.heap[k]?)/\W.heap.size=w.heap.size/\Kept B w0 W:=
 ⟨_,X3R hi hv h1 hb hle,setRow_heap w b cur _ e _ hb,fun k hk=>setRow_other _ _ _ _ hk,by simp,X6g hbw hB _⟩
theorem X1j {t:TypeId} {i:TypeInfo} (hi:P.info? t=some i) {v:Value} (hv:v.cells.size=i.size) (h1:∀u∈v.cells.toList,u.oneCell'=true) {e:TypeId} {s b oo len cap n k:Nat} {xs:List Value}
  (hown:Qu w B e s (.slice (some ⟨b,oo,none⟩) len cap) n xs) (hk:k+v.cells.size<=n*s) (hbw:Kept B w0 w):
  ∃W,(storeVar t ⟨b,oo+k,none⟩ v).run P w=.ok () W/\(∀j,j≠b->W.heap[j]? =w.heap[j]?)/\W.heap.size=w.heap.size/\Kept B w0 W/\
   Qu W B e s (.slice (some ⟨b,oo,none⟩) len cap) n (xs.take k++v.cells.toList++xs.drop (k+v.cells.toList.length)):=by
 rcases hown.2 with⟨hn,_⟩|⟨b',o',cap',cur,hγ,hB,hh',hnc,hcm,hcsz,htake⟩
 .cases hn
 cases hγ;have hrc:len*s<=cap*s:=NI _ hnc;have hul:v.cells.toList.length=v.cells.size:=Array.length_toList;obtain⟨W,hrun,hWb,hWo,hWs,hWB⟩:=X1e (P:=P) (w:=w) (w0:=w0) (B:=B) hi (v:=v) hv h1 hh' (off:=oo+k) (by omega) hbw hB;refine⟨W,hrun,hWo,hWs,hWB,?_,.inr ⟨b,oo,cap,_,rfl,hB,hWb,hnc,hcm,?_,?_⟩⟩
 .rw[Nt,Nt,Ns,D2,hul,hown.1];omega
 .rw[List.size_toArray,Nt,Nt,Ns,D2,hul,Array.length_toList];omega
 rw[<-htake];apply NP;intro k';have hcl:cur.toList.length=cur.size:=Array.length_toList;rw[Nv,No,We _ _ _ _ (by rw[hul,hcl];omega),We _ _ _ _ (by rw[hul,Ns,D2,hcl];omega),Nv,No];by_cases hk':k'<len*s
 .simp only[hk',NG];rw[show oo+k' - (oo+k)=k' - k by omega];by_cases hc:k<=k'/\k'<k+v.cells.toList.length
  .rw[N9 hc,N9 (by omega)]
  rw[N6 hc,N6 (by omega)]
 rw[N6 hk',N6 (by rw[hul];omega),N6 hk']
theorem X5l {t:TypeId} {i:TypeInfo} (hi:P.info? t=some i) {v:Value} {ds:List CD} (hy:Xi F T w (ds.map .c) v.cells) (hsz:ds.length=i.size) (h1:∀u∈v.cells.toList,u.oneCell'=true) {e:TypeId} {s b oo len cap k off:Nat} {rows:List (List CD)}
  (hro:Xm F w B e s (.slice (some ⟨b,oo,none⟩) len cap) rows) (hlt:k<rows.length) (hle:off+ds.length<=s) (hbw:Kept B w0 w) (hFb:¬F b):
  ∃W,(storeVar t ⟨b,oo+(k*s+off),none⟩ v).run P w=.ok () W/\(∀j,j≠b->W.heap[j]? =w.heap[j]?)/\W.heap.size=w.heap.size/\Kept B w0 W/\
   Xm F W B e s (.slice (some ⟨b,oo,none⟩) len cap) (setRow rows k off ds):=by
 obtain⟨h0,hss,xs,hown,hxs1,hc⟩:=hro;have hyl:v.cells.size=ds.length:=by rw[hy.1,D6]
 have hul:v.cells.toList.length=ds.length:=by rw[Array.length_toList,hyl]
 have hrs:(k+1)*s<=rows.length*s:=NI _ hlt;rw[NJ]at hrs;obtain⟨W,hrun,hWo,hWs,hWB,hownW⟩:=X1j hi (by rw[hyl,hsz]) h1 hown (k:=k*s+off) (by rw[hyl];omega) hbw;have hF:∀k,F k->W.heap[k]? =w.heap[k]? :=fun k hk=>hWo k fun e'=>hFb (e'▸hk);refine⟨W,hrun,hWo,hWs,hWB,h0,X7b hss hle,_,by rw[X4J];exact hownW,?_,?_⟩
 .intro u hu;rcases NC.1 hu with hu|hu
  .rcases NC.1 hu with hu|hu
   .exact hxs1 u (Dd hu)
   exact h1 u hu
  exact hxs1 u (D8 hu)
 intro i2 j dd hdd;have hlt2:=Wq (X7b hss hle) hdd;rw[X4J]at hlt2;rw[X9a hss hle hlt]at hdd;rw[We _ _ _ _ (by rw[hul,hown.1];omega),hul];split at hdd
 .rename_i hcase;obtain⟨rfl,ha,hb2⟩:=hcase;rw[N9 (by omega),show i2*s+j - (i2*s+off)=j - off by omega];have hjd:j - off<ds.length:=(N5.1 hdd).1;have hjv:j - off<v.cells.size:=by rw[hyl];exact hjd
  refine⟨v.cells[j - off]'hjv,by simp[hjv],?_⟩;exact CRel.mono (fun _ h=>h) hF (hy.2 (j - off) (.c dd) _ (by simp[hdd]) (by simp[hjv]))
 rename_i hcase;rw[N6 ?_]
 .obtain⟨u,hu,hr⟩:=hc i2 j dd hdd;exact⟨u,hu,hr.mono (fun _ h=>h) hF⟩
 intro hk;apply hcase;rcases Nat.lt_trichotomy i2 k with e'|e'|e'
 .have:(i2+1)*s<=k*s:=NI _ e';rw[NJ]at this;omega
 .subst e';omega
 have:(k+1)*s<=i2*s:=NI _ e';rw[NJ]at this;omega
def Did (P:Program) (Y:Operand->Value) (o:Oper) (w0:World) (B:Nat->Prop) (U:Nat->Option Value) (F:Nat->Prop) (T:Nat->Value) (w:World) (d:Option Nat) (r:RV) (objs':List (Nat×Ob)):Prop:=
 ∃nx v w' T',(execOp Y o).run P w=.ok nx w'/\(nx=.value v\/nx=.skip/\v=undef)/\HeapRel w0 B U F T' objs' w'/\X9 F T' w' r v/\
  Ext T T' d/\w.heap.size<=w'.heap.size/\∀b,F b->w'.heap[b]? =w.heap[b]?
theorem X6K {cs:List CV} {v:Value} (hall:cs.all CV.cell=true) (hy:Xi F T w cs v.cells):∀u∈v.cells.toList,u.oneCell'=true:=by
 intro u hu;obtain⟨j,hj⟩:=Nu.1 hu;have hj':v.cells[j]? =some u:=by simpa using hj
 have hjl:j<cs.length:=by rw[<-hy.1];exact(NO.1 hj').1
 exact Xo.one (Nh.1 hall _ (Di hjl)) (hy.2 j cs[j] u (by simp) hj')
theorem X3E {T:Type} {rows:List (Option T)} {i:Nat} (h:X6A rows i=true):rows[i]? =some none:=by
 unfold X6A at h;split at h
 .assumption
 cases h
theorem X7h {objs objs':List (Nat×Ob)} {g:Operand->RV} {Y:Operand->Value} {o:Oper} {d:Option Nat} {r:RV} {t:TypeId} {x y:Operand} (hh:HeapRel w0 B U F T objs w)
  (hg:∀x,X9 F T w (g x) (Y x)) (ho:o.op=.store t x y) (h:evW P objs g d (.store t x y)=some (r,objs')):Did P Y o w0 B U F T w none r objs':=by
 unfold Did execOp;rw[ho];simp only[evW]at h;have hx:=hg x;split at h
 .rename_i ti cs n off hti hcs hgx;obtain⟨i,td,z,hi,htd,hz,h1,h2,h3,h4,h5⟩:=XD hti;split at h
  .rename_i hcond;obtain⟨hsz,hall⟩:=hcond;split at h
   .rename_i xs hl;split at h
    .rename_i hle;cases h;rw[hgx]at hx;obtain⟨b,hb,hv⟩:=hx;obtain⟨b',e,vs,hb',hB,hh',hc⟩:=hh.ob n _ hl;rw[hb]at hb';cases hb';have hy:=(hg y).cells hcs;have hone:=X6K hall hy;obtain⟨W,hrun,hWb,hWo,hWs,hWB⟩:=X1e (P:=P) (w:=w) (w0:=w0) (B:=B) hi (v:=Y y) (by rw[hy.1,hsz,h1]) hone hh' (off:=off) (by rw[hy.1,hc.1];exact hle) hh.below hB;have hF:∀k,F k->W.heap[k]? =w.heap[k]? :=fun k hk=>hWo k fun e'=>hh.apart n _ hl b (by rw[hb];rfl) (e'▸hk);refine⟨.skip,undef,W,T,?_,.inr ⟨rfl,rfl⟩,?_,trivial,WD fun _ _=>rfl,by rw[hWs];exact ND _,hF⟩
     .simp[hv,Instr.storeAt,Instr.sureAddr,hrun]
     refine hh.wrote hl (b:=b) (by rw[hb];rfl) hWB (by rw[hWs];exact ND _) (fun k _ hne=>hWo k hne) ⟨b,e,_,hb,hB,hWb,?_⟩;exact(hc.splice hy hle).mono (fun _ h=>h) hF
    cases h
   cases h
  cases h
 .rename_i ti cs n s i' off hti hcs hgx;obtain⟨i,td,z,hi,htd,hz,h1,h2,h3,h4,h5⟩:=XD hti;rw[hgx]at hx;obtain⟨b,oo,len,cap,hb,hv⟩:=hx;have hy:=(hg y).cells hcs;split at h
  .rename_i hcond;obtain⟨hsz,hall⟩:=hcond;have hone:=X6K hall hy;split at h
   .rename_i e s' rows ds hl hds;split at h
    .rename_i hle;obtain⟨rfl,hlt,hle⟩:=hle;cases h;have hro:Xm F w B e s (T n) rows:=hh.ob n _ hl;rw[X09 hro.sl]at hb;rw[hb]at hro;have hcs':=Zh _ _ hds;subst hcs';simp only[D6]at hsz;have hFb:¬F b:=hh.apart n _ hl b (by rw[hb];rfl);obtain⟨W,hrun,hWo,hWs,hWB,hroW⟩:=X5l hi hy (by rw[hsz,h1]) hone hro (X33 hlt) hle hh.below hFb;have hF:∀k,F k->W.heap[k]? =w.heap[k]? :=fun k hk=>hWo k fun e'=>hFb (e'▸hk);refine⟨.skip,undef,W,T,?_,.inr ⟨rfl,rfl⟩,?_,trivial,WD fun _ _=>rfl,by rw[hWs];exact ND _,hF⟩
     .simp[hv,Instr.storeAt,Instr.sureAddr,hrun]
     refine hh.wrote hl (b:=b) (by rw[hb];rfl) hWB (by rw[hWs];exact ND _) (fun k _ hne=>hWo k hne) ?_;rw[hb];exact hroW
    cases h
   .-- a row of one's own into a matrix
    rename_i e e' s2 rows hl _;split at h
    .rename_i m hgy;split at h
     .rename_i e2 s3 rs hlm;split at h
      .rename_i hc;obtain⟨rfl,rfl,rfl,rfl,hsz1,hfree,hnm,hn6⟩:=hc;cases h;have hfr:=X3E hfree;have hrom:Xm F w B e2 s3 (T m) rs:=hh.ob m _ hlm;have hym:=hg y;rw[hgy]at hym;obtain⟨hvy,hone1⟩:=hym;rw[X09 hrom.sl]at hvy;obtain⟨o',is,hγ,h0,hlen,⟨xs,hown,hxs⟩,hin,hd1,hd2⟩:=hh.ob n _ hl;rw[hγ]at hb;have hbo:o'=.slice (some ⟨b,oo,none⟩) len cap:=hb;subst hbo;have hlt:i'<rows.length:=(N5.1 hfr).1;have hcy:(Y y).cells= #[Y y]:=X0b hone1;obtain⟨W,hrun,hWo,hWs,hWB,hownW⟩:=X1j hi (v:=Y y) (by rw[hcy,h1,hsz1];rfl) hone hown (k:=i'*1+0) (by rw[hcy];simp;omega) hh.below;have hBn:Blk (T n) b:=by rw[hγ];exact⟨.slice (some ⟨b,oo,none⟩) len cap,by simp,rfl⟩
       have hFb:¬F b:=hh.apart n _ hl b hBn;have hF:∀k,F k->W.heap[k]? =w.heap[k]? :=fun k hk=>hWo k fun e'=>hFb (e'▸hk);have hil:i'<is.length:=by rw[hlen];exact hlt
       have hiu:is[i']? =some undef:=by
        have:=hin i' is[i'] none (by simp[hil]) hfr;rw[Nr hil];rw[show is[i']=undef from this]
       have hgr:Grow (T n) (.agg (.slice (some ⟨b,oo,none⟩) len cap::is.set i' (T m)).toArray):=by
        refine⟨_,is,_,hγ,rfl,fun k v hk hv=>?_⟩;rw[D1];split
        .rename_i e';subst e';rw[hk]at hiu;cases hiu;exact absurd rfl hv
        exact hk
       have hmb:∀c,blk (T m)=some c->c≠b/\∀(k:Nat) v,is[k]? =some v->blk v≠some c:=by
        intro c hc;have hc':Blk (T m) c:=(W6 hrom.sl).2 hc;have hs:=fun hx=>hh.sep m n _ _ hlm hl (Ne.symm hnm) c hc' hx;refine⟨fun e'=>hs (e'▸hBn),fun k v hk hv=>hs ?_⟩;rw[hγ];exact⟨v,by simp[N3 hk],hv⟩
       refine⟨.skip,undef,W,upd T n _,?_,.inr ⟨rfl,rfl⟩,?_,trivial,X6N hgr,by rw[hWs];exact ND _,hF⟩
       .simp[hv,Instr.storeAt,Instr.sureAddr,-Nat.mul_one,-Nat.add_zero,hrun]
       refine hh.joined hl hlm hnm hgr hWB (by rw[hWs];exact ND _) (fun k _ hne=>hWo k fun e'=>hne (e'▸hBn)) ?_ hn6 ?_
       .rintro c ⟨v,hv,hvc⟩;simp only[Ni]at hv;rcases hv with rfl|hv
        .exact .inl (by rw[hγ];exact⟨_,by simp,hvc⟩)
        rcases Dg hv with hv|rfl
        .exact .inl (by rw[hγ];exact⟨v,by simp[hv],hvc⟩)
        exact .inr ((W6 hrom.sl).2 hvc)
       have hset:∀(k:Nat) v r,(is.set i' (T m))[k]? =some v->(rows.set i' (some rs))[k]? =some r->(k=i'/\v=T m/\r=some rs)\/(k≠i'/\is[k]? =some v/\rows[k]? =some r):=by
        intro k v r hv hr;by_cases e':k=i'
        .subst e';rw[NE hil]at hv;rw[NE hlt]at hr;cases hv;cases hr;exact .inl ⟨rfl,rfl,rfl⟩
        rw[NZ (Ne.symm e')]at hv hr;exact .inr ⟨e',hv,hr⟩
       have hset1:∀(k:Nat) v,(is.set i' (T m))[k]? =some v->(k=i'/\v=T m)\/(k≠i'/\is[k]? =some v):=by
        intro k v hv;by_cases e':k=i'
        .subst e';rw[NE hil]at hv;cases hv;exact .inl ⟨rfl,rfl⟩
        rw[NZ (Ne.symm e')]at hv;exact .inr ⟨e',hv⟩
       refine⟨_,_,rfl,h0,by simp[hlen],⟨_,by rw[Dt];exact hownW,fun k v r hv hr=>?_⟩,fun k v r hv hr=>?_,fun k v c hv hvc=>?_,fun j k u v c hu hv hjk huc=>?_⟩
       .rw[hcy];simp only[Nat.mul_one,Nat.add_zero];rw[We _ _ _ _ (by simp[hown.1];omega)];rcases hset k v r hv hr with⟨rfl,rfl,rfl⟩|⟨hne,hv',hr'⟩
        .simp[X17,hvy]
        rw[N6 (by simp;omega)];exact hxs k v r hv' hr'
       .rcases hset k v r hv hr with⟨rfl,rfl,rfl⟩|⟨hne,hv',hr'⟩
        .refine Xm.mono (fun _ h=>h) hF (fun c hc=>hWo c (hmb c hc).1) hrom
        have:=hin k v r hv' hr';cases r with
        |none=>exact this
        |some rr=>exact Xm.mono (fun _ h=>h) hF (fun c hc=>hWo c fun e'=>hd1 k v c hv' hc (by rw[e'];rfl)) this
       .rcases hset1 k v hv with⟨rfl,rfl⟩|⟨hne,hv'⟩
        .intro e';cases e';exact(hmb _ hvc).1 rfl
        exact hd1 k v c hv' hvc
       rcases hset1 j u hu with⟨rfl,rfl⟩|⟨hne,hu'⟩
       .rcases hset1 k v hv with⟨rfl,rfl⟩|⟨hne2,hv'⟩
        .exact absurd rfl hjk
        exact(hmb c huc).2 k v hv'
       rcases hset1 k v hv with⟨rfl,rfl⟩|⟨hne2,hv'⟩
       .intro hvc;exact(hmb c hvc).2 j u hu' huc
       exact hd2 j k u v c hu' hv' hjk huc
      cases h
     cases h
    cases h
   .-- a map of one's own into a row of maps
    rename_i e rows hl _;split at h
    .rename_i m hgy;split at h
     .rename_i rs hlm;split at h
      .rename_i hc;obtain⟨rfl,rfl,hsz1,hfree,hnm,hn6⟩:=hc;cases h;have hfr:=X3E hfree;have hrom:X0M F w B (T m) rs:=hh.ob m _ hlm;have hromb:∃b,T m=.map (some b):=by obtain⟨b,_,_,h1,_⟩:=hrom;exact⟨b,h1⟩
       have hBm:∀c,Blk (T m) c↔blk (T m)=some c:=by obtain⟨b,h1⟩:=hromb;rw[h1];exact fun c=>Iff.rfl
       have hhdm:Hl.hd (T m)=T m:=by obtain⟨b,h1⟩:=hromb;rw[h1];rfl
       have hym:=hg y;rw[hgy]at hym;obtain⟨hvy,hone1⟩:=hym;rw[hhdm]at hvy;obtain⟨o',is,hγ,hlen,⟨xs,hown,hxs⟩,hin,hd1,hd2⟩:=hh.ob n _ hl;rw[hγ]at hb;have hbo:o'=.slice (some ⟨b,oo,none⟩) len cap:=hb;subst hbo;have hlt:i'<rows.length:=(N5.1 hfr).1;have hcy:(Y y).cells= #[Y y]:=X0b hone1;obtain⟨W,hrun,hWo,hWs,hWB,hownW⟩:=X1j hi (v:=Y y) (by rw[hcy,h1,hsz1];rfl) hone hown (k:=i'*1+0) (by rw[hcy];simp;omega) hh.below;have hBn:Blk (T n) b:=by rw[hγ];exact⟨.slice (some ⟨b,oo,none⟩) len cap,by simp,rfl⟩
       have hFb:¬F b:=hh.apart n _ hl b hBn;have hF:∀k,F k->W.heap[k]? =w.heap[k]? :=fun k hk=>hWo k fun e'=>hFb (e'▸hk);have hil:i'<is.length:=by rw[hlen];exact hlt
       have hiu:is[i']? =some undef:=by
        have:=hin i' is[i'] none (by simp[hil]) hfr;rw[Nr hil];rw[show is[i']=undef from this]
       have hgr:Grow (T n) (.agg (.slice (some ⟨b,oo,none⟩) len cap::is.set i' (T m)).toArray):=by
        refine⟨_,is,_,hγ,rfl,fun k v hk hv=>?_⟩;rw[D1];split
        .rename_i e';subst e';rw[hk]at hiu;cases hiu;exact absurd rfl hv
        exact hk
       have hmb:∀c,blk (T m)=some c->c≠b/\∀(k:Nat) v,is[k]? =some v->blk v≠some c:=by
        intro c hc;have hc':Blk (T m) c:=(hBm _).2 hc;have hs:=fun hx=>hh.sep m n _ _ hlm hl (Ne.symm hnm) c hc' hx;refine⟨fun e'=>hs (e'▸hBn),fun k v hk hv=>hs ?_⟩;rw[hγ];exact⟨v,by simp[N3 hk],hv⟩
       refine⟨.skip,undef,W,upd T n _,?_,.inr ⟨rfl,rfl⟩,?_,trivial,X6N hgr,by rw[hWs];exact ND _,hF⟩
       .simp[hv,Instr.storeAt,Instr.sureAddr,-Nat.mul_one,-Nat.add_zero,hrun]
       refine hh.joined hl hlm hnm hgr hWB (by rw[hWs];exact ND _) (fun k _ hne=>hWo k fun e'=>hne (e'▸hBn)) ?_ hn6 ?_
       .rintro c ⟨v,hv,hvc⟩;simp only[Ni]at hv;rcases hv with rfl|hv
        .exact .inl (by rw[hγ];exact⟨_,by simp,hvc⟩)
        rcases Dg hv with hv|rfl
        .exact .inl (by rw[hγ];exact⟨v,by simp[hv],hvc⟩)
        exact .inr ((hBm _).2 hvc)
       have hset:∀(k:Nat) v r,(is.set i' (T m))[k]? =some v->(rows.set i' (some rs))[k]? =some r->(k=i'/\v=T m/\r=some rs)\/(k≠i'/\is[k]? =some v/\rows[k]? =some r):=by
        intro k v r hv hr;by_cases e':k=i'
        .subst e';rw[NE hil]at hv;rw[NE hlt]at hr;cases hv;cases hr;exact .inl ⟨rfl,rfl,rfl⟩
        rw[NZ (Ne.symm e')]at hv hr;exact .inr ⟨e',hv,hr⟩
       have hset1:∀(k:Nat) v,(is.set i' (T m))[k]? =some v->(k=i'/\v=T m)\/(k≠i'/\is[k]? =some v):=by
        intro k v hv;by_cases e':k=i'
        .subst e';rw[NE hil]at hv;cases hv;exact .inl ⟨rfl,rfl⟩
        rw[NZ (Ne.symm e')]at hv;exact .inr ⟨e',hv⟩
       refine⟨_,_,rfl,by simp[hlen],⟨_,by rw[Dt];exact hownW,fun k v r hv hr=>?_⟩,fun k v r hv hr=>?_,fun k v c hv hvc=>?_,fun j k u v c hu hv hjk huc=>?_⟩
       .rw[hcy];simp only[Nat.mul_one,Nat.add_zero];rw[We _ _ _ _ (by simp[hown.1];omega)];rcases hset k v r hv hr with⟨rfl,rfl,rfl⟩|⟨hne,hv',hr'⟩
        .simp[X0E,hvy]
        rw[N6 (by simp;omega)];exact hxs k v r hv' hr'
       .rcases hset k v r hv hr with⟨rfl,rfl,rfl⟩|⟨hne,hv',hr'⟩
        .refine X0M.mono (fun _ h=>h) hF (fun c hc=>hWo c (hmb c hc).1) hrom
        have:=hin k v r hv' hr';cases r with
        |none=>exact this
        |some rr=>exact X0M.mono (fun _ h=>h) hF (fun c hc=>hWo c fun e'=>hd1 k v c hv' hc (by rw[e'];rfl)) this
       .rcases hset1 k v hv with⟨rfl,rfl⟩|⟨hne,hv'⟩
        .intro e';cases e';exact(hmb _ hvc).1 rfl
        exact hd1 k v c hv' hvc
       rcases hset1 j u hu with⟨rfl,rfl⟩|⟨hne,hu'⟩
       .rcases hset1 k v hv with⟨rfl,rfl⟩|⟨hne2,hv'⟩
        .exact absurd rfl hjk
        exact(hmb c huc).2 k v hv'
       rcases hset1 k v hv with⟨rfl,rfl⟩|⟨hne2,hv'⟩
       .intro hvc;exact(hmb c hvc).2 j u hu' huc
       exact hd2 j k u v c hu' hv' hjk huc
      cases h
     cases h
    cases h
   cases h
  cases h
 .rename_i ti cs n s i' j' off hti hcs hgx;obtain⟨i,td,z,hi,htd,hz,h1,h2,h3,h4,h5⟩:=XD hti;rw[hgx]at hx;obtain⟨vs,b,oo,len,cap,hvs,hb,hv⟩:=hx;have hy:=(hg y).cells hcs;split at h
  .rename_i hcond;obtain⟨hsz,hall⟩:=hcond;have hone:=X6K hall hy;split at h
   .rename_i e e' s' rows ds hl hds;split at h
    .rename_i rs hrs;split at h
     .rename_i hle;obtain⟨rfl,hlt,hle⟩:=hle;cases h;have hcs':=Zh _ _ hds;subst hcs';simp only[D6]at hsz;obtain⟨o',is,hγ,h0,hlen,⟨xs,hown,hxs⟩,hin,hd1,hd2⟩:=hh.ob n _ hl;have e9:=hvs.symm.trans hγ;cases e9;have his:is[i']? =some (.slice (some ⟨b,oo,none⟩) len cap):=by simpa using hb
      have hro:Xm F w B e' s (.slice (some ⟨b,oo,none⟩) len cap) rs:=hin i' _ _ his hrs;have hBn:Blk (T n) b:=by rw[hγ];exact⟨.slice (some ⟨b,oo,none⟩) len cap,by simp[N3 his],rfl⟩
      have hFb:¬F b:=hh.apart n _ hl b hBn;obtain⟨W,hrun,hWo,hWs,hWB,hroW⟩:=X5l hi hy (by rw[hsz,h1]) hone hro (X33 hlt) hle hh.below hFb;have hF:∀k,F k->W.heap[k]? =w.heap[k]? :=fun k hk=>hWo k fun e'=>hFb (e'▸hk);refine⟨.skip,undef,W,T,?_,.inr ⟨rfl,rfl⟩,?_,trivial,WD fun _ _=>rfl,by rw[hWs];exact ND _,hF⟩
      .simp[hv,Instr.storeAt,Instr.sureAddr,hrun]
      refine hh.wrote hl (b:=b) hBn hWB (by rw[hWs];exact ND _) (fun k _ hne=>hWo k hne) ?_;have hil:i'<rows.length:=(N5.1 hrs).1;rw[hγ];refine⟨o',is,rfl,h0,by simp[hlen],⟨xs,?_,fun k v r hv hr=>?_⟩,fun k v r hv hr=>?_,hd1,hd2⟩
      .rw[Dt];refine hown.mono fun c hc=>hWo c fun e'=>hd1 i' _ b his rfl (e'▸hc)
      .by_cases e':k=i'
       .subst e';rw[NE hil]at hr;cases hr;have:=hxs k v _ hv hrs;exact this
       rw[NZ (Ne.symm e')]at hr;exact hxs k v r hv hr
      by_cases e':k=i'
      .subst e';rw[NE hil]at hr;cases hr;rw[his]at hv;cases hv;exact hroW
      rw[NZ (Ne.symm e')]at hr;have:=hin k v r hv hr;cases r with
      |none=>exact this
      |some rr=>exact Xm.mono (fun _ h=>h) hF (fun c hc=>hWo c fun e2=>hd2 k i' v _ c hv his e' hc (by rw[e2];rfl)) this
     cases h
    cases h
   cases h
  cases h
 cases h
end
section
variable {P:Program} {F:Nat->Prop} {T:Nat->Value} {w w' w0:World} {B:Nat->Prop} {U:Nat->Option Value}
theorem X4V {objs:List (Nat×Ob)} {g:Operand->RV} {Y:Operand->Value} {y:Operand} {size:Nat} {rows:List (List CD)} (hpos:0<size) (hh:HeapRel w0 B U F T objs w)
  (hg:X9 F T w (g y) (Y y)) (h:Zm objs size (g y)=some rows):
  (∀r∈rows,r.length=size)/\((Y y=.slice none 0 0/\rows=[])\/∃a c,∃news:List Value,Y y=.slice (some a) rows.length c/\news.length=rows.length*size/\
   (∀j u,news[j]? =some u->w.cell? (a.add j)=some u)/\(∀u∈news,u.oneCell'=true)/\
   ∀i j d,XV rows i j=some d->∃u,news[i*size+j]? =some u/\CRel F w d u):=by
 unfold Zm at h;split at h
 .rename_i s rows' hgy;split at h
  .rename_i hs;subst hs;cases h;rw[hgy]at hg;rcases CRel.sl_inv (show CRel F w (.sl s rows) (Y y) from hg)with⟨rfl,hv|⟨a,c,hv⟩⟩|⟨b,o',cap,cells,hv,hF,hcap,hmax,hs,hc,h1,hr⟩
   .exact⟨by simp,.inl ⟨hv,rfl⟩⟩
   .exact⟨by simp,.inr ⟨a,c,[],by simpa using hv,by simp,by simp,by simp,by simp[XV]⟩⟩
   have hex:∀k,k<rows.length*s->∃d,XV rows (k/s) (k%s)=some d:=by
    intro k hk;have hlt:k/s<rows.length:=Nat.div_lt_of_lt_mul (by rw[Nat.mul_comm];exact hk);have hm:k%s<s:=Nat.mod_lt _ hpos;have hl:rows[k/s].length=s:=hs _ (Di hlt);exact⟨rows[k/s][k%s]'(by rw[hl];exact hm),by simp[XV,Nr hlt]⟩
   have hdm:∀k,k/s*s+k%s=k:=fun k=>by rw[Nat.mul_comm];exact Nat.div_add_mod k s
   refine⟨hs,.inr ⟨⟨b,o',none⟩,cap,(List.range (rows.length*s)).map fun k=>cells (k/s) (k%s),hv,by simp,?_,?_,?_⟩⟩
   .intro j u hu;rw[Nf]at hu;simp only[N8]at hu;obtain⟨k,hk,rfl⟩:=hu
    have hk':j<rows.length*s/\j=k:=by
     have:=N5.1 hk;simpa using this
    obtain⟨hlt,rfl⟩:=hk';obtain⟨d,hd⟩:=hex j hlt;have:=hc _ _ d hd;rw[hdm]at this;rw[QI];exact this
   .intro u hu;obtain⟨k,hk,rfl⟩:=NN.1 hu;obtain⟨d,hd⟩:=hex k (by simpa using hk);exact h1 _ _ d hd
   intro i j d hd;obtain⟨hi,hj⟩:=Wq hs hd
   have hlt:i*s+j<rows.length*s:=by
    have:(i+1)*s<=rows.length*s:=NI _ hi;rw[NJ]at this;omega
   have e1:(i*s+j)/s=i:=by rw[Nat.mul_comm,Nat.mul_add_div hpos,Nat.div_eq_of_lt hj,Nat.add_zero]
   have e2:(i*s+j)%s=j:=by rw[Nat.mul_comm,Nat.mul_add_mod,Nat.mod_eq_of_lt hj]
   exact⟨cells i j,by simp[hlt,e1,e2],hr i j d hd⟩
  cases h
 .rename_i m hgy;split at h
  .rename_i e s rows' hl;split at h
   .rename_i hs;subst hs;cases h;rw[hgy]at hg;obtain⟨hv,_⟩:=hg;have hro:Xm F w B e s (T m) rows:=hh.ob m _ hl;rw[X09 hro.sl]at hv;obtain⟨h0,hss,xs,hown,h1,hc⟩:=hro;refine⟨hss,?_⟩;rcases hown.2 with⟨hγ,hn⟩|⟨b,oo,cap,cur,hγ,Xy⟩
    .exact .inl ⟨hv.trans hγ,Np hn⟩
    refine .inr ⟨⟨b,oo,none⟩,cap,xs,hv.trans hγ,hown.1,?_,h1,hc⟩;rw[hγ]at hown;exact hown.cells
   cases h
  cases h
 cases h
theorem X65 {T:Type} (a b:List (List T)) (i j:Nat):XV (a++b) i j=if i<a.length then XV a i j else XV b (i - a.length) j:=by
 unfold XV;by_cases h:i<a.length
 .rw[N9 h,Nm h]
 rw[N6 h,Nl (D4 h)]
theorem X3t (w:World) (t ty e:TypeId) (i:TypeInfo) (ht:P.underlying t=some (.slice e)) (hi:P.info? e=some i)
  (g o sLen sCap:Nat) (cur:Array Value) (hg:w.heap[g]? =some (.cells cur e (0,0)))
  (a:Addr) (m c:Nat) (news:List Value) (hl:news.length=m*i.size) (hnews:∀j u,news[j]? =some u->w.cell? (a.add j)=some u) (h1:∀u∈news,u.oneCell'=true)
  (hroom:sLen+m<=sCap) (hfit:o+sLen*i.size+news.length<=cur.size):
  (Builtin.append_ #[t,t] ty #[.slice (some ⟨g,o,none⟩) sLen sCap,.slice (some a) m c]).run P w=
   .ok (.slice (some ⟨g,o,none⟩) (sLen+m) sCap) (w.setRow g (cur.toList.take (o+sLen*i.size)++news++cur.toList.drop (o+sLen*i.size+news.length)).toArray):=by
 have hf:=run_firstCells_some (P:=P) w i.size m a m c news hl hnews;have hst:=run_storeCells_at P g (o+sLen*i.size) e news 0 cur w hg (by simpa using hfit) h1;simp only[Nat.add_zero]at hst;simp[Builtin.append_,run_underlying ht,sizeOf,typeInfo,hi,Builtin.lenOf,hroom,hf,Addr.add_lit,hst]
theorem X2R {t e ty:TypeId} {ti:TI} (hu:P.underlying t=some (.slice e)) (hti:Q8 P e=some ti) (hpos:0<ti.size) (hzl:ti.zero.length=ti.size)
  {v:Value} {n m c:Nat} {a:Addr} {xs news:List Value} (hown:Qu w B e ti.size v n xs) (hB:∀b,B b->b<w.heap.size) (hl:news.length=m*ti.size)
  (hnews:∀j u,news[j]? =some u->w.cell? (a.add j)=some u) (hn1:∀u∈news,u.oneCell'=true) (hmax:n+m<=maxLen) (hby:(n+m)*ti.bytes<=140737488355328):
  ∃v' w',(Builtin.append_ #[t,t] ty #[v,.slice (some a) m c]).run P w=.ok v' w'/\w.grownBy w' v.ownBlock/\(∀b,blk v'=some b->w.heap.size<=b\/v.ownBlock=some b)/\
   (∃a l c,v'=.slice a l c)/\Qu w' B e ti.size v' (n+m) (xs++news):=by
 obtain⟨i,td,z,hi,htd,hz,h1,h2,h3,h4,h5⟩:=XD hti;have hzs:z.cells.size=ti.size:=by rw[<-hzl,h4];simp
 have hmax':=hmax;unfold maxLen at hmax';have hlen:(xs++news).length=(n+m)*ti.size:=by rw[Nt,hown.1,hl,NJ]
 have fresh:∀(w1:World) (v1:Value),w1.ownsRow w.heap.size e ti.size v1 (n+m) (xs++news)->(∀b,blk v1=some b->w.heap.size<=b)/\(∃a l c,v1=.slice a l c)/\Qu w1 B e ti.size v1 (n+m) (xs++news):=by
  intro w1 v1 h
  have hb:∀b,blk v1=some b->w.heap.size<=b:=by
   intro b hb;rcases h.2 with⟨rfl,_⟩|⟨g,cap,cur,rfl,hx,_⟩
   .cases hb
   cases hb;exact hx
  have hk:Qu w1 B e ti.size v1 (n+m) (xs++news):=by
   refine Qu.of_row ⟨h.1,h.2.imp id ?_⟩ fun b hbb hx=>?_
   .rintro⟨g,cap,cur,h1,_,h3⟩;exact⟨g,cap,cur,h1,Nc _,h3⟩
   have hb2:blk v1=some b:=by
    rcases h.2 with⟨rfl,_⟩|⟨g,cap,cur,rfl,_⟩
    .cases hbb
    exact hbb
   exact De _ (NA (hB b hx) (hb b hb2))
  exact⟨hb,hk.sl,hk⟩
 rcases hown.2 with⟨rfl,hr0⟩|⟨g,o,cap,cur,rfl,hBg,hg,hnc',hcm,hcs,htake⟩
 .have h0:w.ownsRow w.heap.size e ti.size (.slice none 0 0) n xs:=⟨hown.1,.inl ⟨rfl,hr0⟩⟩;obtain⟨v',w',hrun,hown',hgr,_⟩:=run_append_own (P:=P) w w.heap.size t ty e i z ti.size ti.bytes hu hi hz h1 h2 hzs hpos _ n xs h0 a m c news hl hnews hn1 hmax hby (ND _);obtain⟨f1,f2,f3⟩:=fresh w' v' hown';exact⟨v',w',hrun,hgr,fun b hb=>.inl (f1 b hb),f2,f3⟩
 by_cases hroom:n+m<=cap
 .have hsp:(n+m)*ti.size<=cap*ti.size:=NI _ hroom;rw[NJ]at hsp;have hfit:o+n*i.size+news.length<=cur.size:=by rw[hl,h1];omega
  have hr:=X3t (P:=P) w t ty e i hu hi g o n cap cur hg a m c news (by rw[hl,h1]) hnews hn1 hroom hfit;refine⟨_,_,hr,⟨rfl,rfl,rfl,by simp,fun k hk hne=>setRow_other _ _ _ _ fun e'=>hne (by rw[e'];rfl)⟩,fun b hb=>.inr hb,⟨_,_,_,rfl⟩,hlen,.inr ⟨g,o,cap,_,rfl,hBg,setRow_heap w g cur _ e _ hg,hroom,hcm,?_,?_⟩⟩
  .rw[List.size_toArray,Nt,Nt,Ns,D2,Array.length_toList];omega
  rw[<-htake];rw[h1]at hfit⊢;have hcl:cur.toList.length=cur.size:=Array.length_toList;apply NP;intro k;rw[Nv,No,We _ _ _ _ (by rw[hcl];omega)];by_cases hk:k<n*ti.size
  .rw[N9 (by rw[NJ];omega),N6 (by omega),Nm (by rw[Ns,D2,hcl];omega),Nv,N9 hk,No]
  have hx:(List.take (n*ti.size) (List.drop o cur.toList)).length=n*ti.size:=by rw[Ns,D2,hcl];omega
  rw[Nl (by rw[hx];omega),hx];by_cases hk2:k<(n+m)*ti.size
  .rw[N9 hk2,N9 (by rw[hl];rw[NJ]at hk2;omega),show o+k - (o+n*ti.size)=k - n*ti.size by omega]
  rw[N6 hk2,NB (by rw[hl];rw[NJ]at hk2;omega)]
 have hcell:=hown.cells;obtain⟨v',w',hrun,hown',hgr⟩:=run_append_arg_grows (P:=P) w t ty e i z ti.size ti.bytes hu hi hz h1 h2 hzs hpos ⟨g,o,none⟩ n cap xs hown.1 hcell a m c news hl hnews (by omega) hmax hby;obtain⟨f1,f2,f3⟩:=fresh w' v' hown';exact⟨v',w',hrun,⟨hgr.os,hgr.tape,hgr.output,hgr.size,fun k hk _=>hgr.block k hk (by simp)⟩,fun b hb=>.inl (f1 b hb),f2,f3⟩
theorem X20 {t e ty:TypeId} {ti:TI} (hu:P.underlying t=some (.slice e)) (hti:Q8 P e=some ti) (hpos:0<ti.size) (hzl:ti.zero.length=ti.size)
  {v src:Value} {rows more:List (List CD)} {xs:List Value} (hown:Qu w B e ti.size v rows.length xs) (hB:∀b,B b->b<w.heap.size)
  (hs:∀r∈rows,r.length=ti.size) (hx1:∀u∈xs,u.oneCell'=true) (hxc:∀i j d,XV rows i j=some d->∃u,xs[i*ti.size+j]? =some u/\CRel F w d u)
  (hms:∀r∈more,r.length=ti.size)
  (hsrc:(src=.slice none 0 0/\more=[])\/∃a c,∃news:List Value,src=.slice (some a) more.length c/\news.length=more.length*ti.size/\
   (∀j u,news[j]? =some u->w.cell? (a.add j)=some u)/\(∀u∈news,u.oneCell'=true)/\
   ∀i j d,XV more i j=some d->∃u,news[i*ti.size+j]? =some u/\CRel F w d u)
  (hmax:rows.length+more.length<=maxLen) (hby:(rows.length+more.length)*ti.bytes<=140737488355328)
  (hF:∀b,F b->b<w.heap.size) (hFv:∀b,v.ownBlock=some b->¬F b):
  ∃v' w',(Builtin.append_ #[t,t] ty #[v,src]).run P w=.ok v' w'/\w.grownBy w' v.ownBlock/\(∀b,blk v'=some b->w.heap.size<=b\/v.ownBlock=some b)/\
   (∃a l c,v'=.slice a l c)/\(∀b,F b->w'.heap[b]? =w.heap[b]?)/\∀T',Q4 F T' w' B v' (.row e ti.size (rows++more)):=by
 obtain⟨i,td,z,hi,htd,hz,h1,h2,h3,h4,h5⟩:=XD hti;have hzs:z.cells.size=ti.size:=by rw[<-hzl,h4];simp
 have hvform:∃a l c,v=.slice a l c:=by
  rcases hown.2 with⟨rfl,_⟩|⟨b,oo,cap,cur,rfl,_⟩
  .exact⟨_,_,_,rfl⟩
  exact⟨_,_,_,rfl⟩
 rcases hsrc with⟨rfl,rfl⟩|⟨a,c,news,rfl,hl,hnews,hn1,hnc⟩
 .refine⟨v,w,?_,⟨rfl,rfl,rfl,ND _,fun _ _ _=>rfl⟩,?_,hvform,fun _ _=>rfl,fun T'=>?_⟩
  .rcases hown.2 with⟨rfl,hr⟩|⟨b,oo,cap,cur,rfl,hb,hh,hnc',_⟩
   .simp[Builtin.append_,run_underlying hu,sizeOf,typeInfo,hi,Builtin.lenOf,Builtin.firstCells]
   simp[Builtin.append_,run_underlying hu,sizeOf,typeInfo,hi,Builtin.lenOf,Builtin.firstCells,hnc',storeCells]
  .intro b hb;obtain⟨a',l',c',rfl⟩:=hvform;exact .inr (by cases a'<;>simp_all[blk,Value.ownBlock])
  rw[Db];exact⟨hpos,hs,xs,hown,hx1,hxc⟩
 obtain⟨v',w',hrun,hgr,hblk',hform,hownK⟩:=X2R (P:=P) (w:=w) (B:=B) (ty:=ty) (c:=c) hu hti hpos hzl hown hB hl hnews hn1 hmax hby;have hF':∀b,F b->w'.heap[b]? =w.heap[b]? :=fun b hb=>hgr.block b (hF b hb) fun e'=>hFv b e'.symm hb;refine⟨v',w',hrun,hgr,hblk',hform,hF',fun T'=>⟨hpos,?_,xs++news,by rw[Nt];exact hownK,?_,?_⟩⟩
 .intro r hr;rcases NC.1 hr with hr|hr
  .exact hs r hr
  exact hms r hr
 .intro u hu';rcases NC.1 hu' with hu'|hu'
  .exact hx1 u hu'
  exact hn1 u hu'
 intro i' j d hd;rw[X65]at hd;by_cases hlt:i'<rows.length
 .rw[N9 hlt]at hd;obtain⟨u,hu',hr⟩:=hxc i' j d hd;refine⟨u,?_,hr.mono (fun _ h=>h) hF'⟩;rw[Nm (N5.1 hu').1];exact hu'
 rw[N6 hlt]at hd;obtain⟨u,hu',hr⟩:=hnc (i' - rows.length) j d hd;refine⟨u,?_,hr.mono (fun _ h=>h) hF'⟩;have hge:rows.length*ti.size<=i'*ti.size:=NI _ (D4 hlt);rw[Nl (by rw[hown.1];omega),hown.1];rw[<-hu'];congr 1;rw[Nat.sub_mul];omega
theorem X0w {v:Value} (h:∃a l c,v=.slice a l c):blk v=v.ownBlock:=by
 obtain⟨a,l,c,rfl⟩:=h;cases a<;>rfl
theorem X6q {objs objs':List (Nat×Ob)} {g:Operand->RV} {Y:Operand->Value} {o:Oper} {d:Nat} {t e:TypeId} {ti:TI} {x y:Operand} (hh:HeapRel w0 B U F T objs w)
  (hg:∀x,X9 F T w (g x) (Y x)) (hd6:d<1000000) (hd':∀n o,lkp objs n=some o->n≠d/\¬o.men d) (ho:o.op=.call {callee:=.builtin .append,args:= #[x,y],argTypes:= #[t,t]})
  (hu:P.underlying t=some (.slice e)) (hti:Q8 P e=some ti) (h:Wt objs e ti d (g x) (g y)=some objs'):
  ∃nx v w' T',(execOp Y o).run P w=.ok nx w'/\(nx=.value v\/nx=.skip/\v=undef)/\HeapRel w0 B U F T' objs' w'/\X9 F T' w' (.v (.one (.own d))) v/\
   Ext T T' (some d)/\w.heap.size<=w'.heap.size/\∀b,F b->w'.heap[b]? =w.heap[b]? :=by
 unfold Wt at h;split at h
 .rename_i n hgx;split at h
  .rename_i e1 e' s rows hl;split at h
   .rename_i m hgy;split at h
    .rename_i e3 r hm;split at h
     .rename_i e2 s2 rs hr;split at h
      .rename_i hc;obtain⟨rfl,rfl,rfl,hsz1,hzl,hroom,hnr,hnm,hrm⟩:=hc;cases h;have hx:=hg x;rw[hgx]at hx;obtain⟨hvx,_⟩:=hx;have hy:=hg y;rw[hgy]at hy;obtain⟨hvy,_⟩:=hy;have hro:Xm F w B e2 s2 (T r) rs:=hh.ob r _ hr;obtain⟨b3,hγm,hB3,hh3⟩:=hh.ob m _ hm;obtain⟨o',is,hγ,h0,hlen,⟨xs,hown,hxs⟩,hin,hd1,hd2⟩:=hh.ob n _ hl;have hvo:Y x=o':=by rw[hvx,hγ];rfl
       have hvm:Y y=.slice (some ⟨b3,0,none⟩) 1 1:=by rw[hvy,hγm];rfl
       have hsr:=hro.sl
       have hcell:w.cell? ⟨b3,0,none⟩=some (T r):=by
        rw[cell_of_row w b3 0 _ _ (0,0) hh3];simp[X09 hsr]
       obtain⟨v',w',hrun,hgr,hblk,hform,hownK⟩:=X2R (P:=P) (w:=w) (B:=B) (ty:=o.type) (m:=1) (c:=1) (a:=⟨b3,0,none⟩) (news:=[T r]) hu hti (by omega) (by rw[hzl,hsz1]) (by rw[hsz1];exact hown) hh.hB (by simp[hsz1]) (fun j u hu=>by
         cases j with
         |zero=>cases hu;exact hcell
         |succ j=>simp at hu) (fun u hu=>by
         simp only[NS]at hu;subst hu;obtain⟨_,_,_,e⟩:=hsr
         rw[e];rfl) hroom.1 hroom.2
       have hobo:=X0w hown.sl;have hBo:∀c,o'.ownBlock=some c->Blk (T n) c:=fun c hc=>by rw[hγ];exact⟨o',by simp,by rw[hobo];exact hc⟩
       have hF':∀b,F b->w'.heap[b]? =w.heap[b]? :=fun b hb=>hgr.block b (hh.fsz b hb) fun e'=>hh.apart n _ hl b (hBo b e'.symm) hb;have hil:∀(k:Nat) v c,is[k]? =some v->blk v=some c->Blk (T n) c:=fun k v c hk hc=>by rw[hγ];exact⟨v,by simp[N3 hk],hc⟩
       have hrb:∀c,blk (T r)=some c->¬Blk (T n) c/\c<w.heap.size:=fun c hc=>⟨fun hx=>hh.sep n r _ _ hl hr hnr c hx ((W6 hsr).2 hc),((hh.ob r _ hr).blk_lt ((W6 hsr).2 hc)).2⟩;have hvb:∀c,blk v'=some c->w.heap.size<=c\/(blk o'=some c/\Blk (T n) c):=fun c hc=>(hblk c hc).imp id fun h=>⟨by rw[hobo];exact h,hBo c h⟩
       have hink:∀(k:Nat) v c,is[k]? =some v->blk v=some c->w'.heap[c]? =w.heap[c]? :=fun k v c hk hc=>
        hgr.block c ((hh.ob n _ hl).blk_lt (hil k v c hk hc)).2 fun e'=>hd1 k v c hk hc (by rw[hobo];exact e'.symm)
       refine⟨.value v',v',w',upd T d (.agg (v'::(is++[T r])).toArray),?_,.inl rfl,?_,⟨by rw[XH];rfl,by obtain⟨_,_,_,rfl⟩:=hform;rfl⟩,WD fun n hn=>Xq _ (fun e=>hn (by rw[e])),hgr.size,hF'⟩
       .unfold execOp;rw[ho];simp[resolve,invoke,builtin,hvo,hvm,hrun]
       refine hh.moved (ns:=[n,r]) (by simp[hl,hr]) (fun m o hm=>?_) hd' (hh.below.grown hgr hh.hB fun k hk=>((hh.ob n _ hl).blk_lt (hBo k hk)).1) hgr.size
        (fun b hb hne=>hgr.block b hb (fun e=>hne n (by simp) (hBo b e.symm))) ?_ hd6 ?_
       .obtain⟨h1,h2⟩:=Qg hm;obtain⟨h3,h4⟩:=Qg h2;exact⟨by simp[h1,h3],h4⟩
       .rintro c ⟨v,hv,hvc⟩;simp only[Ni,NC,NS,Dn,or_false]at hv;rcases hv with rfl|hv|rfl
        .exact(hvb c hvc).imp id fun h=>⟨n,by simp,h.2⟩
        .obtain⟨k,hk⟩:=Nu.1 hv;exact .inr ⟨n,by simp,hil k v c hk hvc⟩
        exact .inr ⟨r,by simp,(W6 hsr).2 hvc⟩
       have hsp:∀(k:Nat) v,(is++[T r])[k]? =some v->(k<is.length/\is[k]? =some v)\/(k=is.length/\v=T r):=by
        intro k v hv;by_cases hk:k<is.length
        .rw[Nm hk]at hv;exact .inl ⟨hk,hv⟩
        rw[Nl (D4 hk)]at hv
        have:k - is.length=0:=by
         have:=(N5.1 hv).1;simp at this;omega
        rw[this]at hv;cases hv;exact .inr ⟨by omega,rfl⟩
       have hrp:∀(k:Nat) q,k<is.length->(rows++[some rs])[k]? =some q->rows[k]? =some q:=by
        intro k q hk hq;rw[Nm (by omega)]at hq;exact hq
       have hrl:∀q,(rows++[some rs])[is.length]? =some q->q=some rs:=by
        intro q hq;rw[Nl (by omega),hlen,Nat.sub_self]at hq;cases hq;rfl
       refine⟨v',is++[T r],rfl,h0,by simp[hlen],⟨xs++[T r],by rw[hsz1]at hownK;simpa using hownK,fun k v q hv hq=>?_⟩,fun k v q hv hq=>?_,fun k v c hv hvc=>?_,fun j k u v c hu hv hjk huc=>?_⟩
       .rcases hsp k v hv with⟨hk,hv'⟩|⟨rfl,rfl⟩
        .rw[Nm (by rw[hown.1];omega)];exact hxs k v q hv' (hrp k q hk hq)
        rw[hrl q hq,Nl (by rw[hown.1];omega),hown.1,hlen];simp[X17]
       .rcases hsp k v hv with⟨hk,hv'⟩|⟨rfl,rfl⟩
        .have:=hin k v q hv' (hrp k q hk hq);cases q with
         |none=>exact this
         |some rr=>exact Xm.mono (fun _ h=>h) hF' (fun c hc=>hink k v c hv' hc) this
        rw[hrl q hq];exact Xm.mono (fun _ h=>h) hF' (fun c hc=>hgr.block c (hrb c hc).2 fun e'=>(hrb c hc).1 (hBo c e'.symm)) hro
       .intro hc;rcases hsp k v hv with⟨hk,hv'⟩|⟨rfl,rfl⟩
        .rcases hvb c hc with h|h
         .have:=((hh.ob n _ hl).blk_lt (hil k v c hv' hvc)).2;omega
         exact hd1 k v c hv' hvc h.1
        rcases hvb c hc with h|h
        .have:=(hrb c hvc).2;omega
        exact(hrb c hvc).1 h.2
       rcases hsp j u hu with⟨hj,hu'⟩|⟨rfl,rfl⟩
       .rcases hsp k v hv with⟨hk,hv'⟩|⟨rfl,rfl⟩
        .exact hd2 j k u v c hu' hv' hjk huc
        intro hvc;exact(hrb c hvc).1 (hil j u c hu' huc)
       rcases hsp k v hv with⟨hk,hv'⟩|⟨rfl,rfl⟩
       .intro hvc;exact(hrb c huc).1 (hil k v c hv' hvc)
       exact absurd rfl hjk
      cases h
     cases h
    cases h
   cases h
  cases h
 cases h
theorem X6i {objs objs':List (Nat×Ob)} {g:Operand->RV} {Y:Operand->Value} {o:Oper} {dst:Option Nat} {r:RV} {args:Array Operand} {ts:Array TypeId} (hh:HeapRel w0 B U F T objs w)
  (hg:∀x,X9 F T w (g x) (Y x)) (hd:∀d,dst=some d->d<1000000/\∀n o,lkp objs n=some o->n≠d/\¬o.men d)
  (ho:o.op=.call {callee:=.builtin .append,args:=args,argTypes:=ts}) (hsz:args.size=2/\ts.size=2)
  (h:evW P objs g dst (.call {callee:=.builtin .append,args:=args,argTypes:=ts})=some (r,objs')):Did P Y o w0 B U F T w dst r objs':=by
 obtain⟨x,y,rfl⟩:∃x y,args= #[x,y]:=by
  obtain⟨l⟩:=args
  match l,hsz.1 with
  |[x,y],_=>exact⟨x,y,rfl⟩
 obtain⟨t,t',rfl⟩:∃t t',ts= #[t,t']:=by
  obtain⟨l⟩:=ts
  match l,hsz.2 with
  |[x,y],_=>exact⟨x,y,rfl⟩
 unfold Did;cases dst with
 |none=>simp[evW]at h
 | some d =>
   obtain⟨hd6,hd'⟩:=hd d rfl;simp only[evW,List.getElem?_toArray,List.getElem?_cons_zero,List.getElem?_cons_succ]at h;split at h
   .rename_i htt;subst htt;split at h
    .rename_i e he;have hu:=Qq he;split at h
     .rename_i ti hti;split at h
      .rename_i objs2 hmat;cases h;exact X6q hh hg hd6 hd' ho hu hti hmat
      split at h
      .rename_i n rows more hbase hmore;split at h
       .rename_i hcond;obtain⟨hpos,hzl,hmax,hby⟩:=hcond;obtain⟨hms,hsrc⟩:=X4V hpos hh (hg y) hmore;simp only[WT]at hbase;split at hbase
        .rename_i hgx;cases hbase;cases h;have hx:=hg x;rw[hgx]at hx;have hv:Y x=.slice none 0 0:=X9.lit_eq rfl hx
         obtain⟨v',w',hrun,hgr,hblk,hform,hFk,hob⟩:=X20 (P:=P) (F:=F) (w:=w) (B:=B) (ty:=o.type) hu hti hpos hzl (v:=.slice none 0 0) (src:=Y y) (rows:=[]) (more:=more) (xs:=[])
          (Qu.nil w B e ti.size) hh.hB (by simp) (by simp) (by simp[XV]) hms hsrc hmax hby hh.fsz (by simp[Value.ownBlock])
         refine⟨.value v',v',w',upd T d v',?_,.inl rfl,?_,⟨by rw[XH];exact(X09 hform).symm,by obtain⟨_,_,_,rfl⟩:=hform;rfl⟩,WD fun n hn=>Xq _ (fun e=>hn (by rw[e])),hgr.size,hFk⟩
         .unfold execOp;rw[ho];simp[resolve,invoke,builtin,hv,hrun]
         exact hh.made hd' (hh.below.grown hgr hh.hB (by simp[Value.ownBlock])) hgr.size (fun b hb=>hgr.block b hb (by simp[Value.ownBlock])) (fun b hb=>(hblk b ((W6 hform).1 hb)).resolve_right (by simp[Value.ownBlock])) hd6 (by simpa using hob (upd T d v'))
        .rename_i n' hgx;split at hbase
         .rename_i e' s rows' hl;split at hbase
          .rename_i hes;obtain⟨rfl,rfl⟩:=hes;cases hbase;cases h;have hx:=hg x;rw[hgx]at hx;obtain⟨hv,hvf⟩:=hx;have hro:Xm F w B e' ti.size (T n') rows:=hh.ob n' _ hl;have hbo:=X0w hro.sl;have hsl:=hro.sl;rw[X09 hsl]at hv;obtain⟨h0,hss,xs,hown,hx1,hxc⟩:=hro
           obtain⟨v',w',hrun,hgr,hblk,hform,hFk,hob⟩:=X20 (P:=P) (F:=F) (w:=w) (B:=B) (ty:=o.type) hu hti hpos hzl (v:=T n') (src:=Y y) (rows:=rows) (more:=more) (xs:=xs)
            hown hh.hB hss hx1 hxc hms hsrc hmax hby hh.fsz (fun b hb=>hh.apart n' _ hl b ((W6 hsl).2 (by rw[hbo];exact hb)))
           refine⟨.value v',v',w',upd T d v',?_,.inl rfl,?_,⟨by rw[XH];exact(X09 hform).symm,by obtain⟨_,_,_,rfl⟩:=hform;rfl⟩,WD fun n hn=>Xq _ (fun e=>hn (by rw[e])),hgr.size,hFk⟩
           .unfold execOp;rw[ho];simp[resolve,invoke,builtin,hv,hrun]
           refine hh.moved (ns:=[n']) (by simp[hl]) (fun m o hm=>by obtain⟨h1,h2⟩:=Qg hm;exact⟨by simpa using h1,h2⟩) hd' (hh.below.grown hgr hh.hB fun k hk=>?_) hgr.size
            (fun b hb hne=>hgr.block b hb (fun e=>hne n' (by simp) ((W6 hsl).2 (by rw[hbo];exact e.symm)))) (fun b hb=>?_) hd6 (hob (upd T d v'))
           .exact((hh.ob n' _ hl).blk_lt ((W6 hsl).2 (by rw[hbo];exact hk))).1
           rcases hblk b ((W6 hform).1 hb)with h|h
           .exact .inl h
           exact .inr ⟨n',by simp,(W6 hsl).2 (by rw[hbo];exact h)⟩
          cases hbase
         cases hbase
        cases hbase
       cases h
      cases h
     cases h
    cases h
   cases h
theorem X6P {objs objs':List (Nat×Ob)} {g:Operand->RV} {Y:Operand->Value} {o:Oper} {d:Option Nat} {r:RV} {t:TypeId} {m k v:Operand} (hh:HeapRel w0 B U F T objs w)
  (hg:∀x,X9 F T w (g x) (Y x)) (ho:o.op=.mapUpdate t m k v) (h:evW P objs g d (.mapUpdate t m k v)=some (r,objs')):Did P Y o w0 B U F T w none r objs':=by
 unfold Did execOp;rw[ho];simp only[evW]at h;split at h
 .rename_i kd z kv cd n hm hk hgv hgm;obtain⟨kt,e,hu,huk,hz,hp⟩:=X3s hm;have ek:=X9.lit_eq hk (hg k);have hv:=hg v;rw[hgv]at hv;have hm':=hg m;rw[hgm]at hm';obtain⟨hvm,_⟩:=hm';split at h
  .rename_i l hl;split at h
   .rename_i hcell;split at h
    .rename_i hf;cases h;obtain⟨b,es,clock,hγ,hB,hb,hkeys,hborn,hrel⟩:=hh.ob n _ hl;have hvm':Y m=.map (some b):=by rw[hvm,hγ];rfl
     have hfn:=Zb (F:=F) (w:=w) (es:=es.toList) 0 hkeys (fun j k d e h1 h2=>hrel j k d e h1 (by simpa using h2)) hf;have hlt:=Wr hb;refine⟨.skip,undef,{w with heap:=w.heap.setIfInBounds b (.map (es.push {key:=kv,val:=Y v,born:=clock}) (clock+1))},T,?_,.inr ⟨rfl,rfl⟩,?_,trivial,WD fun _ _=>rfl,by simp,fun c hc=>?_⟩
     .simp only[hvm',ek];simp[Instr.mapUpdate,run_underlying hu,MapKept.run_getObj_map hb,Wl huk hp,Instr.findKey,run_underlying huk,hfn,MapKept.run_setObj_map _ hb]
     .have hBn:Blk (T n) b:=by rw[hγ];rfl
      have hkeep:∀c,c≠b->(w.heap.setIfInBounds b (.map (es.push {key:=kv,val:=Y v,born:=clock}) (clock+1)))[c]? =w.heap[c]? :=fun c hc=>by rw[Ny (Ne.symm hc)]
      have hFk:∀c,F c->(w.heap.setIfInBounds b (.map (es.push {key:=kv,val:=Y v,born:=clock}) (clock+1)))[c]? =w.heap[c]? :=fun c hc=>hkeep c fun e'=>hh.apart n _ hl b hBn (e'▸hc);refine hh.wrote hl (b:=b) hBn ⟨hh.below.os,hh.below.tape,hh.below.output,by simpa using hh.below.size,fun c hc=>(hkeep c fun e'=>hB (e'▸hc)).trans (hh.below.block c hc)⟩ (by simp) (fun c _ hne=>hkeep c hne) ?_;rw[hγ];refine⟨b,es.push {key:=kv,val:=Y v,born:=clock},clock+1,rfl,hB,by simp[hlt],by simp[hkeys],hborn.push _ _,fun j k d e h1 h2=>?_⟩;have hlen:es.size=l.length:=by have:=congrArg List.length hkeys;simpa using this
      by_cases hj:j<l.length
      .rw[Nm hj]at h1;rw[Array.getElem?_push,N6 (by omega)]at h2;exact(hrel j k d e h1 h2).mono (fun _ h=>h) hFk
      rw[Nl (D4 hj)]at h1
      have hj0:j - l.length=0:=by
       have:=(N5.1 h1).1;simp at this;omega
      rw[hj0]at h1;cases h1;rw[Array.getElem?_push,N9 (by omega)]at h2;cases h2;exact CRel.mono (fun _ h=>h) hFk hv
     have hBn:Blk (T n) b:=by rw[hγ];rfl
     show(w.heap.setIfInBounds b _)[c]? =_;rw[Ny (by rintro rfl;exact hh.apart n _ hl b hBn hc)]
    .rename_i x hf;split at h
     .rename_i l' hset;cases h;obtain⟨b,es,clock,hγ,hB,hb,hkeys,hborn,hrel⟩:=hh.ob n _ hl;have hvm':Y m=.map (some b):=by rw[hvm,hγ];rfl
      obtain⟨j0,v0,k0,hfn,hj0,⟨e0,he0,hk0⟩,hsb,rfl⟩:=X4a (d:=cd) (es:=es.toList) 0 hkeys hset;have hlt:=Wr hb;rw[Nat.zero_add]at hfn;have he0':es[j0]? =some e0:=by simpa using he0
      have hstay:(Instr.keyThatStays (((es[j0]?).map (·.key)).getD kv) kv).run P w=.ok kv w:=by
       rw[he0',Option.map_some,Option.getD_some,hk0];simp[Instr.keyThatStays,hsb]
      refine⟨.skip,undef,{w with heap:=w.heap.setIfInBounds b (.map (es.modify j0 fun e=>{e with key:=kv,val:=Y v}) clock)},T,?_,.inr ⟨rfl,rfl⟩,?_,trivial,WD fun _ _=>rfl,by simp,fun c hc=>?_⟩
      .simp only[hvm',ek];simp[Instr.mapUpdate,run_underlying hu,MapKept.run_getObj_map hb,Wl huk hp,Instr.findKey,run_underlying huk,hfn,hstay,MapKept.run_setObj_map _ hb]
      .have hBn:Blk (T n) b:=by rw[hγ];rfl
       have hkeep:∀c,c≠b->(w.heap.setIfInBounds b (.map (es.modify j0 fun e=>{e with key:=kv,val:=Y v}) clock))[c]? =w.heap[c]? :=fun c hc=>by rw[Ny (Ne.symm hc)]
       have hFk:∀c,F c->(w.heap.setIfInBounds b (.map (es.modify j0 fun e=>{e with key:=kv,val:=Y v}) clock))[c]? =w.heap[c]? :=fun c hc=>hkeep c fun e'=>hh.apart n _ hl b hBn (e'▸hc);refine hh.wrote hl (b:=b) hBn ⟨hh.below.os,hh.below.tape,hh.below.output,by simpa using hh.below.size,fun c hc=>(hkeep c fun e'=>hB (e'▸hc)).trans (hh.below.block c hc)⟩ (by simp) (fun c _ hne=>hkeep c hne) ?_;rw[hγ];refine⟨b,es.modify j0 fun e=>{e with key:=kv,val:=Y v},clock,rfl,hB,by simp[hlt],?_,hborn.modify _ _ fun _=>rfl,fun j k d e h1 h2=>?_⟩
       .apply NP;intro j;have hkj:=congrArg (·[j]?) hkeys;simp only[Nf,Dh]at hkj;simp only[Nf,Dh,Dq,D1];by_cases hj:j0=j
        .subst hj;rw[N9 rfl,N9 rfl,N9 hj0,he0'];rfl
        rw[N6 hj,N6 hj];exact hkj
       rw[D1]at h1;rw[Dq]at h2;by_cases hj:j0=j
       .subst hj;rw[N9 rfl,N9 hj0]at h1;rw[N9 rfl,he0']at h2;cases h1;cases h2;exact CRel.mono (fun _ h=>h) hFk hv
       rw[N6 hj]at h1 h2;exact(hrel j k d e h1 h2).mono (fun _ h=>h) hFk
      have hBn:Blk (T n) b:=by rw[hγ];rfl
      show(w.heap.setIfInBounds b _)[c]? =_;rw[Ny (by rintro rfl;exact hh.apart n _ hl b hBn hc)]
     cases h
    cases h
   cases h
  cases h
 .rename_i kd z kv cd n i0 hm hk hgv hgm;obtain⟨kt,e,hu,huk,hz,hp⟩:=X3s hm;have ek:=X9.lit_eq hk (hg k);have hv:=hg v;rw[hgv]at hv;have hm':=hg m;rw[hgm]at hm';obtain⟨vs,hvs,hsub,_⟩:=hm';split at h
  .rename_i e1 ms hl;split at h
   .rename_i l hms;split at h
    .rename_i hcell;split at h
     .rename_i hf;cases h;obtain⟨o',is,hγ,hlen,⟨xs,hown,hxs⟩,hin,hd1,hd2⟩:=hh.ob n _ hl
      have hiv:is[i0]? =some (Y m):=by
       rw[hγ]at hvs;cases hvs;simpa using hsub
      obtain⟨b,es,clock,hvm',hB,hb,hkeys,hborn,hrel⟩:=hin i0 _ _ hiv hms;have hfn:=Zb (F:=F) (w:=w) (es:=es.toList) 0 hkeys (fun j k d e h1 h2=>hrel j k d e h1 (by simpa using h2)) hf;have hlt:=Wr hb;refine⟨.skip,undef,{w with heap:=w.heap.setIfInBounds b (.map (es.push {key:=kv,val:=Y v,born:=clock}) (clock+1))},T,?_,.inr ⟨rfl,rfl⟩,?_,trivial,WD fun _ _=>rfl,by simp,fun c hc=>?_⟩
      .simp only[hvm',ek];simp[Instr.mapUpdate,run_underlying hu,MapKept.run_getObj_map hb,Wl huk hp,Instr.findKey,run_underlying huk,hfn,MapKept.run_setObj_map _ hb]
      .have hBn:Blk (T n) b:=by rw[hγ];exact⟨Y m,by simp[N3 hiv],by rw[hvm'];rfl⟩
       have hkeep:∀c,c≠b->(w.heap.setIfInBounds b (.map (es.push {key:=kv,val:=Y v,born:=clock}) (clock+1)))[c]? =w.heap[c]? :=fun c hc=>by rw[Ny (Ne.symm hc)]
       have hFk:∀c,F c->(w.heap.setIfInBounds b (.map (es.push {key:=kv,val:=Y v,born:=clock}) (clock+1)))[c]? =w.heap[c]? :=fun c hc=>hkeep c fun e'=>hh.apart n _ hl b hBn (e'▸hc);refine hh.wrote hl (b:=b) hBn ⟨hh.below.os,hh.below.tape,hh.below.output,by simpa using hh.below.size,fun c hc=>(hkeep c fun e'=>hB (e'▸hc)).trans (hh.below.block c hc)⟩ (by simp) (fun c _ hne=>hkeep c hne) ?_;rw[hγ];have hbm:blk (Y m)=some b:=by rw[hvm'];rfl
       have hob:=hd1 i0 _ b hiv hbm;have hil:i0<ms.length:=(N5.1 hms).1;refine⟨o',is,rfl,by simp[hlen],⟨xs,by rw[Dt];exact hown.mono fun c hc=>hkeep c fun e'=>hob (by rw[hc,e']),fun k v' r hv' hr=>?_⟩,fun k v' r hv' hr=>?_,hd1,hd2⟩
       .rw[D1]at hr;by_cases hk0:i0=k
        .subst hk0;rw[N9 rfl,N9 hil]at hr;cases hr;exact(hxs i0 v' (some l) hv' hms:xs[i0]? =some v')
        rw[N6 hk0]at hr;exact hxs k v' r hv' hr
       rw[D1]at hr;by_cases hk0:i0=k
       .subst hk0;rw[N9 rfl,N9 hil]at hr;cases hr;rw[hiv]at hv';cases hv';refine⟨b,es.push {key:=kv,val:=Y v,born:=clock},clock+1,hvm',hB,by simp[hlt],by simp[hkeys],hborn.push _ _,fun j k d e h1 h2=>?_⟩;have hlen2:es.size=l.length:=by have:=congrArg List.length hkeys;simpa using this
        by_cases hj:j<l.length
        .rw[Nm hj]at h1;rw[Array.getElem?_push,N6 (by omega)]at h2;exact(hrel j k d e h1 h2).mono (fun _ h=>h) hFk
        rw[Nl (D4 hj)]at h1
        have hj0:j - l.length=0:=by
         have:=(N5.1 h1).1;simp at this;omega
        rw[hj0]at h1;cases h1;rw[Array.getElem?_push,N9 (by omega)]at h2;cases h2;exact CRel.mono (fun _ h=>h) hFk hv
       rw[N6 hk0]at hr;have:=hin k v' r hv' hr;cases r with
       |none=>exact this
       |some rr=>exact X0M.mono (fun _ h=>h) hFk (fun c hc=>hkeep c fun e'=>hd2 i0 k _ _ b hiv hv' hk0 hbm (by rw[hc,e'])) this
      have hBn:Blk (T n) b:=by rw[hγ];exact⟨Y m,by simp[N3 hiv],by rw[hvm'];rfl⟩
      show(w.heap.setIfInBounds b _)[c]? =_;rw[Ny (by rintro rfl;exact hh.apart n _ hl b hBn hc)]
     cases h
    cases h
   cases h
  cases h
 cases h
end
inductive Cls where
 |neutral|alloc|read|write|call|bad
 deriving DecidableEq
def Q9:Op->Cls
 | .nilCheck _| .makeFunc _ _ _| .index _ _ _| .slice _ _ _ _ _=>.neutral
 | .move _| .assign _| .pick _ _ _| .fieldAddr _ _ _| .field _ _ _| .extract _ _| .binOp _ _ _ _ _| .unOp _ _ _| .build _ _=>.neutral
 | .alloc _| .box _ _| .buildSlice _ _ _| .makeSlice _ _ _| .makeMap _ _| .range _ _=>.alloc
 | .load _ _| .indexAddr _ _ _| .lookup _ _ _ _| .entry _=>.read
 | .store _ _ _| .mapUpdate _ _ _ _=>.write
 | .call c=>match c.callee with
   | .builtin .len=>.read
   | .builtin .min=>.neutral
   | .builtin .max=>.neutral
   | .builtin .append=>if c.args.size=2/\c.argTypes.size=2 then .write else .bad
   | .value _=>.call
   |_=>.bad
 |_=>.bad
def CV.menB (d:Nat):CV->Bool
 | .own n=>n==d
 | .at_ n _=>n==d
 | .el n _ _ _=>n==d
 | .sub n _=>n==d
 | .el2 n _ _ _ _=>n==d
 | .fn _ caps=>caps.any fun p=>p.1==d
 | .gd _ x=>x.menB d
 |_=>false
def TV.menB (d:Nat):TV->Bool
 | .one x=>x.menB d
 | .agg xs=>xs.any (CV.menB d)
def RV.menB (d:Nat):RV->Bool
 | .v t=>t.menB d
 | .tup ts=>ts.any (TV.menB d)
def Ob.menB (d:Nat):Ob->Bool
 | .box cs=>cs.any (CV.menB d)
 | .refs _ ns=>ns.contains d
 |_=>false
theorem CV.menB_iff {d:Nat} {x:CV}:x.menB d=true↔x.men d:=by
 induction x<;>simp_all[CV.menB,CV.men]
theorem TV.menB_iff {d:Nat} {x:TV}:x.menB d=true↔x.men d:=by
 cases x<;>simp[TV.menB,TV.men,CV.menB_iff]
theorem RV.menB_iff {d:Nat} {x:RV}:x.menB d=true↔x.men d:=by
 cases x<;>simp[RV.menB,RV.men,TV.menB_iff]
theorem Ob.menB_iff {d:Nat} {x:Ob}:x.menB d=true↔x.men d:=by
 cases x<;>simp[Ob.menB,Ob.men,CV.menB_iff]
def Qi {T:Type}:List (Nat×T)->Bool
 |[]=>true
 |(k,_)::l=>(match l with|[]=>true|(m,_)::_=>decide (k<m))&&Qi l
def QV (d:Nat) (s:HS):Bool:=(decide (d<1000000)&&Qi s.objs)&&((s.regs.all fun p=> !p.2.menB d)&&s.objs.all fun p=>p.1!=d&& !p.2.menB d)
theorem XE {T:Type} {n:Nat} {x:T}:∀{l:List (Nat×T)},lkp l n=some x->(n,x)∈l
 |[],h=>by cases h
 | (k,y)::l,h=>by
   simp only[lkp]at h;split at h
   .rename_i e;cases h;subst e;simp
   exact Nx _ (XE h)
theorem Zz {d:Nat} {s:HS} (h:QV d s=true) {k:Nat} {r:RV} (hr:lkp s.regs k=some r):¬r.men d:=by
 simp only[QV,N4,Nh]at h;have:=h.2.1 _ (XE hr);intro hm;rw[RV.menB_iff.2 hm]at this;cases this
theorem ZF {d:Nat} {s:HS} (h:QV d s=true) (n:Nat) (o:Ob) (hr:lkp s.objs n=some o):n≠d/\¬o.men d:=by
 simp only[QV,N4,Nh]at h;have:=h.2.2 _ (XE hr);simp only[bne_iff_ne,ne_eq]at this;refine⟨this.1,fun hm=>?_⟩;rw[Ob.menB_iff.2 hm]at this;cases this.2
theorem X1b {d:Nat} {s:HS} (h:QV d s=true):d<1000000:=by
 simp only[QV,N4,N7]at h;exact h.1.1
theorem X2H {d:Nat} {s:HS} (h:QV d s=true):Qi s.objs=true:=by
 simp only[QV,N4,N7]at h;exact h.1.2
theorem X0A {d:Nat} {s:HS} (h:QV d s=true) (x:Operand):¬(opd s.regs x).men d:=by
 cases x with
 | tmp t=>
   simp only[opd];cases hl:lkp s.regs t with
   |none=>simp[RV.men,TV.men,CV.men]
   |some r=>exact Zz h hl
 | const v=>
   simp only[opd];unfold X2a;split
   .simp[RV.men,TV.men,CV.men]
   simp[RV.men,TV.men,CV.men]
 |global g=>simp[opd,RV.men,TV.men,CV.men]
 |func f=>simp[opd,RV.men,TV.men,CV.men]
def HS.put (s:HS) (dst:Option Nat) (r:RV):HS:=
 match dst with
 |some d=>{s with regs:=ins d r s.regs}
 |none=>s
def Q3 (s:HS) (dst:Option Nat):Bool:=
 match dst with
 |some d=>decide (d<s.nt.n)
 |none=>true
def ZV (ops:Array Oper) (o:Oper) (s:HS):Option Bool:=
 match o.guard with
 |none=>some true
 | some (j,want)=>match(ops[j]?).bind (·.dst)with
   | some d=>match lkp s.regs d with
     |some (.v (.one (.c (.lit (.bool b)))))=>some (b==want)
     |some (.v (.one (.gd b' (.c (.lit (.bool b))))))=>some (b'&&(b==want))
     |some (.v (.one (.gd false .any)))=>some false
     |_=>none
   |none=>none
def ungd (c:Bool) (y:CV):RV:=if c=true then .v (.one y)else .v (.one (.gd c y))
theorem Xaf (y:CV):ungd true y=.v (.one y):=rfl
theorem XaE (c:Bool) (v:Value):X3m (ungd c (.c (.lit v)))=some (c,v):=by cases c<;>rfl
theorem litG_lit (v:Value):X3m (.v (.one (.c (.lit v))))=some (true,v):=rfl
theorem litG_gd (b:Bool) (v:Value):X3m (.v (.one (.gd b (.c (.lit v)))))=some (b,v):=rfl
theorem litG_any:X3m (.v (.one .any))=none:=rfl
theorem litG_sl (s:Nat) (rows:List (List CD)):X3m (.v (.one (.c (.sl s rows))))=none:=rfl
theorem litG_ptr (cs:List CD):X3m (.v (.one (.c (.ptr cs))))=none:=rfl
theorem litG_own (n:Nat):X3m (.v (.one (.own n)))=none:=rfl
theorem litG_at (n off:Nat):X3m (.v (.one (.at_ n off)))=none:=rfl
theorem litG_agg (xs:List CV):X3m (.v (.agg xs))=none:=rfl
def Ze (b:Bool):RV->RV
 | .v (.one (.gd b' y))=>ungd (X0T b b') y
 |r=>r
def gdR (b:Bool):RV->RV
 | .v (.one (.gd c x))=>.v (.one (.gd (b&&c) x))
 | .v (.agg xs)=>if b=true then .v (.agg xs)else .v (.one .any)
 | .v (.one x)=>.v (.one (.gd b x))
 |_=>.v (.one .any)
def evOp (P:Program) (s:HS) (o:Oper):Option (RV×List (Nat×Ob)):=
 match Q9 o.op with
 | .neutral=>match evN P (opd s.regs) o.op with
   |some (r,_)=>some (r,s.objs)
   |none=>none
 | .alloc=>match o.dst with
   | some d=>if QV d s then match evA P (opd s.regs) d o.op with
     |some (r,some ob)=>some (r,ins d ob s.objs)
     |_=>none
     else none
   |none=>none
 | .read=>match evR P s.objs (opd s.regs) o.op with
   |some r=>some (r,s.objs)
   |none=>none
 | .write=>match o.dst with
   |some d=>if QV d s then evW P s.objs (opd s.regs) (some d) o.op else none
   |none=>evW P s.objs (opd s.regs) none o.op
 |_=>none
def X2Y (P:Program) (s:HS) (o:Oper):Option HS:=
 match evOp P s o with
 |some (r,objs)=>if Q3 s o.dst then some ({s with objs:=objs}.put o.dst r)else none
 |none=>none
def stpG (P:Program) (s:HS) (b:Bool) (o:Oper):Option HS:=
 if Q3 s o.dst then match Q9 o.op with
  | .neutral=>match evN P (fun x=>Ze b (opd s.regs x)) o.op with
    |some (r,_)=>some (s.put o.dst (gdR b r))
    |none=>if b=false then some (s.put o.dst (.v (.one .any)))else none
  | .read=>match evR P s.objs (fun x=>Ze b (opd s.regs x)) o.op with
    |some r=>some (s.put o.dst (gdR b r))
    |none=>if b=false then some (s.put o.dst (.v (.one .any)))else none
  | _=>match b with
    |true=>X2Y P s o
    |false=>some (s.put o.dst (.v (.one .any)))
 else none
section
variable {P:Program} {F:Nat->Prop} {T:Nat->Value} {w w' w0:World} {B:Nat->Prop} {U:Nat->Option Value}
theorem X1t {b:Bool} (hb:b=true) {r:RV} {v:Value} (h:X9 F T w r v):X9 F T w (Ze b r) v:=by
 unfold Ze;split
 .unfold ungd;split
  .rename_i hc;subst hb;exact h.1 (by simpa[X0T]using hc)
  subst hb;refine⟨fun hb=>h.1 (by simpa[X0T]using hb),fun hb=>h.2 (by simpa[X0T]using hb)⟩
 exact h
theorem X0F {b:Bool} {r:RV} {v:Value} (h:b=true->X9 F T w r v) (h0:b=false->v=undef):X9 F T w (gdR b r) v:=by
 unfold gdR;split
 .rename_i c x;refine⟨fun hb=>?_,fun hb=>?_⟩
  .simp only[N4]at hb;exact(h hb.1).1 hb.2
  cases b with
  |false=>exact h0 rfl
  |true=>exact(h rfl).2 (by simpa using hb)
 .split
  .rename_i hb;exact h hb
  exact trivial
 .exact⟨fun hb=>h hb,h0⟩
 exact trivial
theorem X8r (v:Value):X9 F T w (X2a v) v:=by
 unfold X2a;split
 .exact⟨_,rfl,Xi.ofLits _⟩
 exact CRel.lit _
theorem Rel.opd {s:HS} {a:Act} (h:Rel w0 B U F T s a w) (x:Operand):X9 F T w (opd s.regs x) (a.eval x):=by
 cases x with
 | tmp t=>
   simp only[Hl.opd,Act.eval];cases hl:lkp s.regs t with
   |none=>exact trivial
   |some r=>exact h.regs t r hl
 |const v=>exact X8r v
 |global g=>exact trivial
 |func f=>exact⟨[],rfl,rfl,by simp⟩
theorem Rel.step {s:HS} {a:Act} (h:Rel w0 B U F T s a w) {F':Nat->Prop} {T':Nat->Value} {objs':List (Nat×Ob)} {r:RV} {v:Value} {dst:Option Nat} (hd:Q3 s dst=true)
  (hh:HeapRel w0 B U F' T' objs' w') (hr:X9 F' T' w' r v)
  (hkeep:∀k r v,lkp s.regs k=some r->X9 F T w r v->X9 F' T' w' r v):Rel w0 B U F' T' ({s with objs:=objs'}.put dst r) (a.put dst v) w':=by
 cases dst with
 |none=>exact⟨hh,h.defers,h.nt,fun k r' hk=>hkeep k r' _ hk (h.regs k r' hk)⟩
 | some d=>
   have hd':d<s.nt.n:=by simpa[Q3]using hd
   refine⟨hh,h.defers,by simpa[Act.put,HS.put]using h.nt,fun k r' hk=>?_⟩;simp only[HS.put]at hk;rw[Qb]at hk;simp only[Act.put];split at hk
   .rename_i e;cases hk;subst e;have:k<a.tmps.size:=by rw[h.nt.1];exact hd'
    rw[Nq,Array.getElem?_setIfInBounds_self_of_lt this];exact hr
   rename_i e;have:=hkeep k r' _ hk (h.regs k r' hk);rw[Nq,Ny (Ne.symm e),<-Array.getD_eq_getD_getElem?];exact this
theorem X4v {s:HS} {a:Act} {o:Oper} {r:RV} {objs':List (Nat×Ob)} (h:Rel w0 B U F T s a w) (he:evOp P s o=some (r,objs')):
  ∃nx v w' T',(execOp a.eval o).run P w=.ok nx w'/\(nx=.value v\/nx=.skip/\v=undef)/\HeapRel w0 B U F T' objs' w'/\X9 F T' w' r v/\
   (∀k r v,lkp s.regs k=some r->X9 F T w r v->X9 F T' w' r v):=by
 unfold evOp at he;split at he
 .split at he
  .rename_i r' ob hn;cases he;obtain⟨_,v,hrun,hr⟩:=X3u (F:=F) (T:=T) (w:=w) h.opd hn;exact⟨_,v,w,T,hrun,.inl rfl,h.heap,hr,fun _ _ _ _ h=>h⟩
  cases he
 .split at he
  .rename_i d hd;split at he
   .rename_i hun;split at he
    .rename_i r' ob ha;cases he;obtain⟨ob',hob,v,w',hrun,hh,hr,hsz,hk⟩:=X5J h.heap h.opd (X0A hun) (ZF hun) (X1b hun) ha;cases hob;refine⟨_,v,w',_,hrun,.inl rfl,hh,hr,fun k r v hl hr=>?_⟩;exact(h.heap.keepR hk hr).upd (Zz hun hl)
    cases he
   cases he
  cases he
 .split at he
  .rename_i r' hn;cases he;obtain⟨v,hrun,hr⟩:=X1n h.heap h.opd hn;exact⟨_,v,w,T,hrun,.inl rfl,h.heap,hr,fun _ _ _ _ h=>h⟩
  cases he
 .rename_i hc
  have key:∀d,(∀d',d=some d'->QV d' s=true)->evW P s.objs (Hl.opd s.regs) d o.op=some (r,objs')->∃nx v w' T',(execOp a.eval o).run P w=.ok nx w'/\(nx=.value v\/nx=.skip/\v=undef)/\HeapRel w0 B U F T' objs' w'/\X9 F T' w' r v/\
   (∀k r v,lkp s.regs k=some r->X9 F T w r v->X9 F T' w' r v):=by
   intro d hd he
   have fin:∀d2:Option Nat,(∀d',d2=some d'->QV d' s=true)->Did P a.eval o w0 B U F T w d2 r objs'->∃nx v w' T',(execOp a.eval o).run P w=.ok nx w'/\(nx=.value v\/nx=.skip/\v=undef)/\HeapRel w0 B U F T' objs' w'/\X9 F T' w' r v/\
     (∀k r v,lkp s.regs k=some r->X9 F T w r v->X9 F T' w' r v):=by
    intro d2 hd2 ⟨nx,v,w',T',hrun,hnx,hh,hr,hγ,hsz,hF⟩;refine⟨nx,v,w',T',hrun,hnx,hh,hr,fun k r v hl hr=>?_⟩;have h1:=hr.mono (F':=F) (fun _ h=>h) hF;exact h1.ext hγ fun e he=>Zz (hd2 e he) hl
   cases ho:o.op with
   |store t x y=>rw[ho]at he;exact fin none (by simp) (X7h h.heap h.opd ho he)
   |mapUpdate t m k v=>rw[ho]at he;exact fin none (by simp) (X6P h.heap h.opd ho he)
   | call c=>
     rw[ho]at hc he;obtain⟨callee,args,ts⟩:=c;cases callee with
     |value f=>simp[Q9]at hc
     |invoke f m=>simp[Q9]at hc
     | builtin b=>
       cases b<;>simp only[Q9]at hc<;>try cases hc
       rename_i hc';split at hc
       .rename_i hsz;exact fin d hd (X6i h.heap h.opd (fun d' e=>⟨X1b (hd d' e),ZF (hd d' e)⟩) ho hsz he)
       cases hc
   |_=>rw[ho]at hc;simp[Q9]at hc
  split at he
  .rename_i d hd;split at he
   .rename_i hun;exact key (some d) (fun d' e=>by cases e;exact hun) he
   cases he
  exact key none (by simp) he
 cases he
end
end Go.Hl
