/- HmF: part of an evaluator of Go code over abstract states, proved sound over the model; used by the proof of the claimed statement. Conditions: none. -/
import Derived.Test.YtdajceakaakdoaaGreatHmD
set_option linter.unusedSimpArgs false
set_option linter.unusedVariables false
namespace Go.Hl
open Go Go.RowKit
section
variable {P:Program} {F:Nat→Prop} {γ:Nat→Value} {w w' w0:World} {B:Nat→Prop} {π:Nat→Option Value}
theorem HeapRel.alloc {objs:List (Nat×Ob)} (h:HeapRel w0 B π F γ objs w) {d:Nat} {x:Value} {ob:Ob} {o:Obj}
  (hd:∀n o,lkp objs n=some o→n≠d∧¬o.men d) (hd6:d<1000000) (hx:∀b,Blk x b→b=w.heap.size)
  (hob:XT F (upd γ d x) (w.alloc o) B x ob):HeapRel w0 B π F (upd γ d x) (ins d ob objs) (w.alloc o):=
 h.made hd (h.below.alloc h.hB o) (by simp) (fun b hb=>Below.heap_alloc w o b hb) (fun b hb=>by rw[hx b hb];exact Nat.le_refl _) hd6 hob
theorem HeapRel.keepR {objs:List (Nat×Ob)} (h:HeapRel w0 B π F γ objs w) (hkeep:∀b,b<w.heap.size→w'.heap[b]? =w.heap[b]?) {r:RV} {v:Value} (hr:X9 F γ w r v):X9 F γ w' r v:=
 hr.mono (fun _ h=>h) fun b hb=>hkeep b (h.fsz b hb)
theorem ZB:∀(cs:List CV) (r:List CD),W8 cs=some r→cs=r.map .c
 |[],r,h=>by cases h;rfl
 | c::cs,r,h=>by
   cases c<;>simp only[W8]at h<;>try cases h
   simp only[Option.map_eq_some_iff]at h;obtain⟨r',hr',rfl⟩:=h;simp[ZB cs r' hr']
theorem X3t {size:Nat} {g:Operand→RV} {ρ:Operand→Value} (hg:∀x,X9 F γ w (g x) (ρ x)):∀(l:List (Nat×Operand)) (k:Nat) (rows:List (List CD)),
  WN size g k l=some rows→rows.length=l.length∧(∀r∈rows,r.length=size)∧
   (l.map fun x=>(x.1,ρ x.2))=((l.map fun x=>ρ x.2).zipIdx k).map (fun x=>(x.2,x.1))∧
   (∀x∈l,(ρ x.2).cells.size=size∧∀u∈(ρ x.2).cells.toList,u.oneCell'=true)∧
   ∀i j d,XG rows i j=some d→∃u,XG (l.map fun x=>(ρ x.2).cells.toList) i j=some u∧CRel F w d u
 | [],k,rows,h=>by
   cases h;refine⟨rfl,by simp,by simp,by simp,fun i j d h=>by simp[XG]at h⟩
 | (i0, x) ::l,k,rows,h=>by
   unfold WN at h;split at h
   · rename_i hk;subst hk;split at h
     · rename_i r rs hr hrs;split at h
       · rename_i hsz;cases h;obtain⟨h1,h2,h3,h4,h5⟩:=X3t hg l _ _ hrs;simp only[Option.bind_eq_some_iff]at hr;obtain⟨cs,hcs,hds⟩:=hr;have hc:=(hg x).cells hcs;have hcs':=ZB cs r hds;subst hcs';have hlen:(ρ x).cells.size=size:=by rw[hc.1,List.length_map,hsz.1]
         have hall:∀u∈(ρ x).cells.toList,u.oneCell'=true:=by
          intro u hu;obtain⟨j,hj⟩:=List.mem_iff_getElem?.1 hu;have hj':(ρ x).cells[j]? =some u:=by simpa using hj
          have hjl:j<r.length:=by
           have:=(Array.getElem?_eq_some_iff.1 hj').1;rw[hc.1,List.length_map]at this;exact this
          have hcr:=hc.2 j (.c r[j]) u (by simp[hjl]) hj';refine Xn.one (x:=.c r[j]) ?_ hcr;exact List.all_eq_true.1 hsz.2 _ (List.getElem_mem hjl)
         refine⟨by simp[h1],?_,?_,?_,?_⟩
         · intro r' hr';rcases List.mem_cons.1 hr' with rfl|hr'
           · exact hsz.1
           exact h2 r' hr'
         · simp only[List.map_cons,List.zipIdx_cons];rw[h3]
         · intro y hy;rcases List.mem_cons.1 hy with rfl|hy
           · exact⟨hlen,hall⟩
           exact h4 y hy
         intro i j d hd;cases i with
         | zero=>
           simp only[XG,List.getElem?_cons_zero,Option.bind_some]at hd;have hjl:j<r.length:=(List.getElem?_eq_some_iff.1 hd).1;have hjv:j<(ρ x).cells.size:=by rw[hlen,←hsz.1];exact hjl
           refine⟨(ρ x).cells[j],?_,?_⟩
           · simp[XG,hjv]
           exact hc.2 j (.c d) _ (by simp[hd]) (by simp[hjv])
         | succ i=>
           obtain⟨u,hu,hr'⟩:=h5 i j d (by simpa[XG]using hd);exact⟨u,by simpa[XG]using hu,hr'⟩
       cases h
     cases h
   cases h
theorem X5I {g:Operand→RV} {l:List (Nat×Operand)} {n:Nat} (h:X07 g l=some n):∃x,l=[(0,x)]∧g x=.v (.one (.own n)):=by
 unfold X07 at h;split at h
 · rename_i x;split at h
   · rename_i m hg;cases h;exact⟨x,rfl,hg⟩
   cases h
 cases h
theorem X6h {objs:List (Nat×Ob)} {g:Operand→RV} {ρ:Operand→Value} {o:Oper} {d:Nat} {r:RV} {ob:Option Ob} (hh:HeapRel w0 B π F γ objs w)
  (hg:∀x,X9 F γ w (g x) (ρ x)) (hm:∀x,¬(g x).men d) (hd:∀n o,lkp objs n=some o→n≠d∧¬o.men d) (hd6:d<1000000) (h:evA P g d o.op=some (r,ob)):
  ∃ob',ob=some ob'∧∃v w',(execOp ρ o).run P w=.ok (.value v) w'∧HeapRel w0 B π F (upd γ d v) (ins d ob' objs) w'∧X9 F (upd γ d v) w' r v∧
   w.heap.size≤w'.heap.size∧(∀b,b<w.heap.size→w'.heap[b]? =w.heap[b]?):=by
 unfold execOp;generalize o.op=op at*;cases op<;>simp only[evA]at h
 case alloc e=>
  split at h
  · rename_i ti hti;cases h;obtain⟨i,td,z,hi,htd,hz,h1,h2,h3,h4,h5⟩:=XC hti;refine⟨_,rfl,.pointer (some ⟨w.heap.size,0,none⟩),w.alloc (.cells z.cells e),by simp[Instr.alloc,zeroValue,typeInfo,hi,hz,newVar,newRow],?_,?_,by simp,fun b hb=>Below.heap_alloc w _ b hb⟩
    · refine hh.alloc hd hd6 (fun b hb=>by cases hb;rfl) ⟨w.heap.size,e,z.cells,rfl,fun hb=>Nat.lt_irrefl _ (hh.hB _ hb),heap_alloc_new w _,?_⟩;rw[h4];exact Xk.ofLits _
    exact⟨w.heap.size,by rw[Xo],rfl⟩
  cases h
 case box e x=>
  split at h
  · rename_i cs hcs;cases h;have hc:=(hg x).cells hcs;refine⟨_,rfl,.pointer (some ⟨w.heap.size,0,none⟩),w.alloc (.cells (ρ x).cells e),by simp[Instr.box,newVar,newRow],?_,?_,by simp,fun b hb=>Below.heap_alloc w _ b hb⟩
    · refine hh.alloc hd hd6 (fun b hb=>by cases hb;rfl) ⟨w.heap.size,e,(ρ x).cells,rfl,fun hb=>Nat.lt_irrefl _ (hh.hB _ hb),heap_alloc_new w _,?_⟩;refine Xk.upd ?_ (hc.mono (fun _ h=>h) fun b hb=>Below.heap_alloc w _ b (hh.fsz b hb));rintro⟨y,hy,hyd⟩;refine hm x ?_;unfold cellsOf at hcs;split at hcs
      · rename_i y' hgx;split at hcs
        · cases hcs;simp only[List.mem_singleton]at hy;subst hy;rw[hgx];exact hyd
        cases hcs
      · rename_i xs hgx;cases hcs;rw[hgx];exact⟨y,hy,hyd⟩
      cases hcs
    exact⟨w.heap.size,by rw[Xo],rfl⟩
  cases h
 case buildSlice t len parts=>
  split at h
  · rename_i e he;split at h
    · rename_i ti hti;split at h
      · rename_i hcond;obtain⟨hpos,hlen,hbig,hzl⟩:=hcond;obtain⟨i,td,z,hi,htd,hz,h1,h2,h3,h4,h5⟩:=XC hti;have hu:=Q4 he;split at h
        case h_2=>
         split at h
         · rename_i _ n hsz1 hown;cases h;obtain⟨x,hpx,hgx⟩:=X5I hown;have hx:=hg x;rw[hgx]at hx;obtain⟨hv,h1c⟩:=hx;have hmn:¬n=d:=by have:=hm x;rw[hgx]at this;exact this
           have hpa:parts= #[(0,x)]:=Array.ext' hpx;subst hpa;have hzs:z.cells.size=1:=by rw[←Array.length_toList,←h4,hzl,hsz1]
           refine⟨_,rfl,.slice (some ⟨w.heap.size,0,none⟩) 1 1,w.alloc (.cells #[ρ x] e),?_,?_,⟨by rw[Xo];rfl,rfl⟩,by simp,fun b hb=>Below.heap_alloc w _ b hb⟩
           · have hz0:(zeroValue e).run P w=.ok z w:=by simp[zeroValue,typeInfo,hi,hz]
             have hcx:(ρ x).cells= #[ρ x]:=X0N h1c;have hr1:(Array.range 1)= #[0]:=by decide
             simp[Instr.buildSlice,run_underlying hu,sizeOf,typeInfo,hi,h1,hsz1,hz0,newRow];simp[Instr.fill,hcx];rw[hr1];simp
           refine hh.alloc hd hd6 (fun b hb=>by cases hb;rfl) ⟨w.heap.size,rfl,fun hb=>Nat.lt_irrefl _ (hh.hB _ hb),?_⟩;rw[heap_alloc_new];simp only[List.map_cons,List.map_nil,Xd _ hmn,←hv]
         cases h
        rename_i rows hrows;cases h;obtain⟨r1,r2,r3,r4,r5⟩:=X3t hg parts.toList 0 rows hrows;have hzs:z.cells.size=ti.size:=by rw[←hzl,h4];simp
        obtain⟨out,ho,hol⟩:=X8z ti.size (parts.toList.map fun x=>ρ x.2) 0 ((Array.range (len*ti.size)).map (z.cells[· %z.cells.size]!)) (by
         intro v hv;obtain⟨x,hx,rfl⟩:=List.mem_map.1 hv
         exact(r4 x hx).1) (by simp[hlen])
        have hout:out.toList=((parts.toList.map fun x=>ρ x.2).map fun v=>v.cells.toList).flatten:=by
         rw[hol];simp[hlen]
        have hrl:∀r∈(parts.toList.map fun x=>ρ x.2).map fun v=>v.cells.toList,r.length=ti.size:=by
         intro r hr;obtain⟨v,hv,rfl⟩:=List.mem_map.1 hr;obtain⟨x,hx,rfl⟩:=List.mem_map.1 hv;simpa using(r4 x hx).1
        have hosz:out.size=len*ti.size:=by
         rw[←Array.length_toList,hout,X4C _ hrl];simp[hlen]
        have hrowlen:rows.length=len:=by rw[r1,hlen];simp
        refine⟨_,rfl,.slice (some ⟨w.heap.size,0,none⟩) len len,w.alloc (.cells out e),?_,?_,?_,by simp,fun b hb=>Below.heap_alloc w _ b hb⟩
        · have hparts:(parts.map fun(x:Nat×Operand)=>(x.1,ρ x.2)).toList=((parts.toList.map fun x=>ρ x.2).zipIdx 0).map fun x=>(x.2,x.1):=by
           rw[Array.toList_map];exact r3
          have hlt:¬16777216<len*ti.size:=by omega
          rw[←hparts]at ho;have hz0:(zeroValue e).run P w=.ok z w:=by simp[zeroValue,typeInfo,hi,hz]
          simp only[Array.toList_map]at ho;simp[Instr.buildSlice,run_underlying hu,sizeOf,typeInfo,hi,h1,hlt,hz0,ho,newRow];intro h0
          have hl0:len=0:=by
           rcases Nat.eq_zero_or_pos len with h|h
           · exact h
           exact absurd h0 (Nat.ne_of_gt (Nat.mul_pos h hpos))
          have h9:parts.size=0:=hlen.symm.trans hl0;have hp0:parts.toList=[]:=List.eq_nil_of_length_eq_zero (by simpa using h9)
          have hout0:out= #[]:=by
           apply Array.ext';rw[hout,hp0];rfl
          have he0:Array.map (fun _=>(default:Value)) (Array.range 0)= #[]:=Array.eq_empty_of_size_eq_zero (by simp);simp[hp0,Instr.fill,hl0,hout0,he0]
        · refine hh.alloc hd hd6 (fun b hb=>by cases hb;rfl) ⟨hpos,r2,out.toList,?_,?_,?_⟩
          · have:=World.ownsRow_lit (size:=ti.size) (base:=0) (e:=e) w out len (Nat.zero_le _) (by unfold maxLen;have:=Nat.le_mul_of_pos_right len hpos;omega) hosz;rw[hrowlen];exact Qy.of_row this fun b hb h=>by cases hb;exact Nat.lt_irrefl _ (hh.hB _ h)
          · intro u hu;rw[hout]at hu;obtain⟨l,hl,hul⟩:=List.mem_flatten.1 hu;obtain⟨v,hv,rfl⟩:=List.mem_map.1 hl;obtain⟨x,hx,rfl⟩:=List.mem_map.1 hv;exact(r4 x hx).2 u hul
          intro i j dd hdd;obtain⟨u,hu',hr'⟩:=r5 i j dd hdd;have hj:=(WO r2 hdd).2;refine⟨u,?_,hr'.mono (fun _ h=>h) fun b hb=>Below.heap_alloc w _ b (hh.fsz b hb)⟩;rw[hout,X1D _ hrl i j hj,List.map_map];exact hu'
        exact⟨by rw[Xo];rfl,rfl⟩
      cases h
    cases h
  cases h
 case makeSlice t l c=>
  split at h
  · rename_i e n m he hl hc;split at h
    · rename_i ti hti;split at h
      · rename_i hcond;obtain⟨hpos,hn0,hnm,hmax,hby,hzl,hz1⟩:=hcond;cases h;obtain⟨i,td,z,hi,htd,hz,h1,h2,h3,h4,h5⟩:=XC hti;have hu:=Q4 he;have el:=X9.lit_eq hl (hg l);have ec:=X9.lit_eq hc (hg c);subst hnm;obtain⟨k,rfl⟩:=Int.eq_ofNat_of_zero_le hn0;have hzs:z.cells.size=ti.size:=by rw[←hzl,h4];simp
        obtain⟨w',hrun,hown,hgr⟩:=run_make_full (P:=P) w 0 t e i z ti.size hu hi hz h1 .i64 .i64 k (by
         rw[h2];have:((ti.bytes*k:Nat):Int)≤281474976710656:=by rw[Int.natCast_mul];exact hby
         omega) (by omega) (Nat.zero_le _)
        have hrows:∀r∈List.replicate k (ti.zero.map CD.lit),r.length=ti.size:=by
         intro r hr;rw[(List.mem_replicate.1 hr).2,List.length_map,hzl]
        refine⟨_,rfl,.slice (some ⟨w.heap.size,0,none⟩) k k,w',by simp[el,ec,hrun],?_,⟨by rw[Xo];rfl,rfl⟩,hgr.size,fun b hb=>hgr.block b hb (by simp)⟩;refine hh.made hd (hh.below.grown hgr hh.hB (by simp)) hgr.size (fun b hb=>hgr.block b hb (by simp)) (fun b hb=>by cases hb;exact Nat.le_refl _) hd6 ⟨hpos,hrows,_,by simpa using Qy.of_row hown fun b hb h=>by cases hb;exact Nat.lt_irrefl _ (hh.hB _ h),?_,?_⟩
        · intro u hu';simp only[madeCells,Array.toList_map,List.mem_map]at hu';obtain⟨j,_,rfl⟩:=hu';have hlt:j%z.cells.size<z.cells.size:=Nat.mod_lt _ (by omega);rw[getElem!_pos z.cells _ hlt];rw[h4]at hz1;exact List.all_eq_true.1 hz1 _ (by simp)
        intro i' j d' hd';obtain⟨hi',hj⟩:=WO hrows hd';simp only[List.length_replicate]at hi'
        have hd2:(ti.zero.map CD.lit)[j]? =some d':=by
         unfold XG at hd';rw[List.getElem?_replicate,if_pos (by simpa using hi')]at hd';exact hd'
        rw[h4,List.getElem?_map]at hd2;simp only[Option.map_eq_some_iff]at hd2;obtain⟨u,hu',rfl⟩:=hd2;refine⟨u,?_,CRel.lit u⟩
        have hlt:i'*ti.size+j<k*ti.size:=by
         have:(i'+1)*ti.size≤k*ti.size:=Nat.mul_le_mul_right _ hi';rw[Nat.add_mul]at this;omega
        have hmod:(i'*ti.size+j)%z.cells.size=j:=by rw[hzs,Nat.mul_comm,Nat.mul_add_mod,Nat.mod_eq_of_lt hj]
        have hjz:j<z.cells.size:=by omega
        have hzj:z.cells[j]=u:=by
         have:z.cells.toList[j]? =some u:=hu';simpa[hjz]using this
        simp[madeCells,hlt,hmod,hjz,hzj]
      cases h
    cases h
  cases h
 case makeMap t r=>
  cases r with
  |some x=>cases h
  | none=>
    cases h;refine⟨_,rfl,.map (some w.heap.size),w.alloc (.map #[] 0),by simp[Instr.makeMap],?_,⟨by rw[Xo];rfl,rfl⟩,by simp,fun b hb=>Below.heap_alloc w _ b hb⟩;refine hh.alloc hd hd6 (fun b hb=>by cases hb;rfl) ⟨w.heap.size, #[],0,rfl,fun hb=>Nat.lt_irrefl _ (hh.hB _ hb),heap_alloc_new w _,rfl,Zr.nil 0,by simp⟩
 case range t x=>
  split at h
  · rename_i hmt
    have hu:∃k e,P.underlying t=some (.map k e):=by
     unfold X5z at hmt;split at hmt
     · exact⟨_,_,by assumption⟩
     cases hmt
    obtain⟨kt,et,hu⟩:=hu;have hx:=hg x;split at h
    · rename_i l hgx;cases h;rw[hgx]at hx;have hx':CRel F w (.mp l) (ρ x):=hx;generalize hv:ρ x=v at hx';cases hx' with
      | mnil=>
        refine⟨_,rfl,.pointer (some ⟨w.heap.size,0,none⟩),w.alloc (.mapIter none 0 #[] 0),by simp[Instr.range,hv,run_underlying hu],?_,?_,by simp,fun b hb=>Below.heap_alloc w _ b hb⟩
        · exact hh.alloc hd hd6 (fun b hb=>by cases hb;rfl) ⟨w.heap.size,rfl,fun hb=>Nat.lt_irrefl _ (hh.hB _ hb),.inl ⟨rfl,heap_alloc_new w _⟩⟩
        exact⟨w.heap.size,by rw[Xo],rfl⟩
      | mp _ m es clock hF hb hk hn hr=>
        have hm:m<w.heap.size:=hh.fsz m hF;have hkp:(w.alloc (.mapIter (some m) clock #[] clock)).heap[m]? =w.heap[m]? :=Below.heap_alloc w _ m hm;refine⟨_,rfl,.pointer (some ⟨w.heap.size,0,none⟩),w.alloc (.mapIter (some m) clock #[] clock),by simp[Instr.range,hv,run_underlying hu,MapKept.run_getObj_map hb],?_,?_,by simp,fun b hb=>Below.heap_alloc w _ b hb⟩
        · refine hh.alloc hd hd6 (fun b hb=>by cases hb;rfl) ⟨w.heap.size,rfl,fun hb=>Nat.lt_irrefl _ (hh.hB _ hb),.inr ⟨m,es,clock, #[],heap_alloc_new w _,hF,hkp.trans hb,hk,hn,fun j k d e h1 h2=>?_,rfl⟩⟩;exact(hr j k d e h1 h2).mono (fun _ h=>h) fun b hb=>Below.heap_alloc w _ b (hh.fsz b hb)
        exact⟨w.heap.size,by rw[Xo],rfl⟩
    · rename_i hgx;cases h;rw[hgx]at hx;have hv:ρ x=.map none:=X9.lit_eq rfl hx;refine⟨_,rfl,.pointer (some ⟨w.heap.size,0,none⟩),w.alloc (.mapIter none 0 #[] 0),by simp[Instr.range,hv,run_underlying hu],?_,?_,by simp,fun b hb=>Below.heap_alloc w _ b hb⟩
      · exact hh.alloc hd hd6 (fun b hb=>by cases hb;rfl) ⟨w.heap.size,rfl,fun hb=>Nat.lt_irrefl _ (hh.hB _ hb),.inl ⟨rfl,heap_alloc_new w _⟩⟩
      exact⟨w.heap.size,by rw[Xo],rfl⟩
    cases h
  cases h
 all_goals cases h
end
end Go.Hl
