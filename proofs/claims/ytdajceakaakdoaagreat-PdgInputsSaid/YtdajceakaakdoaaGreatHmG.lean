/- HmG: part of an evaluator of Go code over abstract states, proved sound over the model; used by the proof of the claimed statement. Conditions: none. -/
import Derived.Test.YtdajceakaakdoaaGreatHmF
import Derived.MapKept
import Derived.Maps.RangeRun
set_option linter.unusedSimpArgs false
set_option linter.unusedVariables false
namespace Go.Hl
open Go Go.RowKit
section
variable {P:Program} {F:Nat→Prop} {γ:Nat→Value} {w w' w0:World} {B:Nat→Prop} {π:Nat→Option Value}
theorem X0p {t:TypeId} {ti:TI} (hti:XF P t=some ti) {b o:Nat} {cells:Nat→Value} {xs:List CV} {r:RV}
  (hc:∀(j:Nat) x,xs[j]? =some x→w.cell? ⟨b,o+j,none⟩=some (cells j)) (hr:∀(j:Nat) x,xs[j]? =some x→Xn F γ w x (cells j))
  {off:Nat} (h:WY ti xs off=some r):∃v,(loadVar t ⟨b,o+off,none⟩).run P w=.ok v w∧X9 F γ w r v:=by
 obtain⟨i,d,z,hi,hd,hz,h1,h2,h3,h4,h5⟩:=XC hti;unfold WY at h;unfold loadVar;by_cases ha:ti.agg=true
 · rw [if_pos ha]at h;by_cases hle:off+ti.size≤xs.length
   · rw[if_pos hle]at h;cases h
     have hcs:(loadCells ⟨b,o+off,none⟩ ti.size).run P w=.ok ((List.range ti.size).map fun j=>cells (off+j)).toArray w:=by
      refine run_loadCells (P:=P) w _ _ (fun j=>cells (off+j)) fun j hj=>?_;rw[QW,Nat.add_assoc];exact hc (off+j) xs[off+j] (by simp)
     refine⟨.agg ((List.range ti.size).map fun j=>cells (off+j)).toArray,?_,_,rfl,by simp;omega,fun j x u hx hu=>?_⟩
     · simp[Wg hd,←h3,ha,XA hi,h1,hcs]
     rw[List.getElem?_take]at hx;split at hx
     · rw[List.getElem?_drop]at hx;rename_i hj;simp[hj]at hu;subst hu;exact hr _ x hx
     cases hx
   rw[if_neg hle]at h;cases h
 rw[if_neg ha]at h;cases hx:xs[off]? with
 |none=>simp[hx]at h
 | some x=>
   simp only[hx]at h;cases h;refine⟨cells off,?_,hr off x hx⟩;simp[Wg hd,←h3,ha,hc off x hx]
theorem X83 {t e:TypeId} {ti:TI} (hti:XF P t=some ti) {s b oo len cap i off:Nat} {rows:List (List CD)} {rr:List CD} {r:RV} (hro:Xr F w B e s (.slice (some ⟨b,oo,none⟩) len cap) rows)
  (hrr:rows[i]? =some rr) (h:WY ti (rr.map .c) off=some r):∃v,(loadVar t ⟨b,oo+(i*s+off),none⟩).run P w=.ok v w∧X9 F γ w r v:=by
 rw[←Nat.add_assoc];obtain⟨h0,hss,xs,hown,h1,hc⟩:=hro;have hcell:=hown.cells;refine X0p (F:=F) (γ:=γ) (w:=w) hti (b:=b) (o:=oo+i*s) (cells:=fun j=>xs.getD (i*s+j) undef) (xs:=rr.map .c) (fun j x hx=>?_) (fun j x hx=>?_) h
 · rw[List.getElem?_map]at hx;simp only[Option.map_eq_some_iff]at hx;obtain⟨d,hd,rfl⟩:=hx;obtain⟨u,hu,hr⟩:=hc i j d (by simp[XG,hrr,hd]);have:=hcell _ u hu;rw[QW,←Nat.add_assoc]at this;simp[this,hu]
 rw[List.getElem?_map]at hx;simp only[Option.map_eq_some_iff]at hx;obtain⟨d,hd,rfl⟩:=hx;obtain⟨u,hu,hr⟩:=hc i j d (by simp[XG,hrr,hd]);simp only[List.getD,hu,Option.getD_some];exact hr
theorem X3C {objs:List (Nat×Ob)} (hh:HeapRel w0 B π F γ objs w) {n:Nat} {e e':TypeId} {s:Nat} {rows:List (Option (List (List CD)))} (hl:lkp objs n=some (.mat e e' s rows)):
  ∃(o:Value) (is xs:List Value),γ n=.agg (o::is).toArray∧0<s∧is.length=rows.length∧Qy w B e 1 o rows.length xs∧
   (∀(i:Nat) v r,is[i]? =some v→rows[i]? =some r→xs[i]? =some (ZV v r))∧(∀(i:Nat) v r,is[i]? =some v→rows[i]? =some r→InRel F w B e' s v r):=by
 obtain⟨o,is,hγ,h0,hlen,⟨xs,hown,hxs⟩,hin,_⟩:=hh.ob n _ hl;exact⟨o,is,xs,hγ,h0,hlen,hown,hxs,hin⟩
theorem X7l {objs:List (Nat×Ob)} (hh:HeapRel w0 B π F γ objs w) {n i:Nat} {e e':TypeId} {s:Nat} {rows:List (Option (List (List CD)))} (hl:lkp objs n=some (.mat e e' s rows)) {rs:List (List CD)} (hr:rows[i]? =some (some rs))
  {vs:Array Value} {v:Value} (hvs:γ n=.agg vs) (hv:vs[i+1]? =some v):Xr F w B e' s v rs:=by
 obtain⟨o,is,xs,hγ,_,hlen,_,_,hin⟩:=X3C hh hl;rw[hγ]at hvs;cases hvs;exact hin i v _ (by simpa using hv) hr
theorem X3E {objs:List (Nat×Ob)} (hh:HeapRel w0 B π F γ objs w) {n:Nat} {e:TypeId} {ms:List (Option (List (Value×CD)))} (hl:lkp objs n=some (.mps e ms)):
  ∃(o:Value) (is xs:List Value),γ n=.agg (o::is).toArray∧is.length=ms.length∧Qy w B e 1 o ms.length xs∧
   (∀(i:Nat) v r,is[i]? =some v→ms[i]? =some r→xs[i]? =some (X0s v r))∧(∀(i:Nat) v r,is[i]? =some v→ms[i]? =some r→InMp F w B v r):=by
 obtain⟨o,is,hγ,hlen,⟨xs,hown,hxs⟩,hin,_⟩:=hh.ob n _ hl;exact⟨o,is,xs,hγ,hlen,hown,hxs,hin⟩
theorem sub_map {objs:List (Nat×Ob)} (hh:HeapRel w0 B π F γ objs w) {n i:Nat} {e:TypeId} {ms:List (Option (List (Value×CD)))} (hl:lkp objs n=some (.mps e ms)) {l:List (Value×CD)} (hr:ms[i]? =some (some l))
  {vs:Array Value} {v:Value} (hvs:γ n=.agg vs) (hv:vs[i+1]? =some v):X1h F w B v l:=by
 obtain⟨o,is,xs,hγ,hlen,_,_,hin⟩:=X3E hh hl;rw[hγ]at hvs;cases hvs;exact hin i v _ (by simpa using hv) hr
theorem X4f {t:TypeId} {kd:TypeDesc} {z:Value} (h:mapT P t=some (kd,z)):∃k e,P.underlying t=some (.map k e)∧P.underlying k=some kd∧(∀w:World,(zeroValue e).run P w=.ok z w)∧X4S kd=true∧z.oneCell'=true:=by
 unfold mapT at h;split at h
 · rename_i k e hu;split at h
   · rename_i kd' z' hk hz;split at h
     · rename_i hc;cases h;refine⟨k,e,hu,hk,fun w=>?_,hc.1,hc.2⟩;simp only[Option.bind_eq_some_iff]at hz;obtain⟨i,hi,hz⟩:=hz;simp[zeroValue,typeInfo,hi,hz]
     cases h
   cases h
 cases h
theorem ZG {kd:TypeDesc} {kv:Value}:∀{l:List (Value×CD)} {es:List MapEntry} {r:Option CD} (i:Nat),es.map (·.key)=l.map (·.1)→(∀(j:Nat) k d e,l[j]? =some (k,d)→es[j]? =some e→CRel F w d e.val)→X4v kd kv l=some r→
  match r with
  |some d=>∃j v,Instr.findNow kd kv es i=some (some (j,v))∧CRel F w d v
  |none=>Instr.findNow kd kv es i=some none
 |[],[],r,i,_,_,h=>by cases h;rfl
 |[],e::es,r,i,hk,_,h=>by simp at hk
 |(k,d)::l,[],r,i,hk,_,h=>by simp at hk
 | (k, d)::l,e::es,r,i,hk,hr,h=>by
   simp only[List.map_cons,List.cons.injEq]at hk;unfold X4v at h;unfold Instr.findNow;rw[hk.1];cases hs:Instr.sameNow kd kv k with
   |none=>rw[hs]at h;cases h
   | some b=>
     rw[hs]at h;cases b with
     | true=>
       cases h;exact⟨i,e.val,rfl,hr 0 k d e rfl rfl⟩
     |false=>exact ZG (i+1) hk.2 (fun j k d e h1 h2=>hr (j+1) k d e h1 h2) h
theorem X5n {kd:TypeDesc} {kv:Value} {d:CD}:∀{l l':List (Value×CD)} {es:List MapEntry} (i:Nat),es.map (·.key)=l.map (·.1)→setM kd kv d l=some l'→
  ∃j v k0,Instr.findNow kd kv es i=some (some (i+j,v))∧j<l.length∧(∃e,es[j]? =some e∧e.key=k0)∧Instr.sameBits 10000 k0 kv=true∧l'=l.set j (kv,d)
 |[],_,_,i,_,h=>by cases h
 |(k,x)::l,l',[],i,hk,h=>by simp at hk
 | (k, x)::l,l',e::es,i,hk,h=>by
   simp only[List.map_cons,List.cons.injEq]at hk;unfold setM at h;unfold Instr.findNow;rw[hk.1];cases hs:Instr.sameNow kd kv k with
   |none=>rw[hs]at h;cases h
   | some b=>
     rw[hs]at h;cases b with
     | true=>
       simp only at h;split at h
       · rename_i hb;cases h;exact⟨0,e.val,k,rfl,by simp,⟨e,rfl,hk.1⟩,hb,rfl⟩
       cases h
     | false=>
       simp only[Option.map_eq_some_iff]at h;obtain⟨l1,h1,rfl⟩:=h;obtain⟨j,v,k0,h2,h3,h4,h5,h6⟩:=X5n (i+1) hk.2 h1;refine⟨j+1,v,k0,?_,by simpa using h3,by simpa using h4,h5,by rw[h6];rfl⟩;rw[show i+(j+1)=i+1+j by omega];exact h2
theorem WE {k:TypeId} {kd:TypeDesc} (hk:P.underlying k=some kd) (hp:X4S kd=true) (em:Bool) (v:Value):(Instr.checkKey em 10000 k v).run P w=.ok () w:=by
 show(Instr.checkKey em (9999+1) k v).run P w=_;generalize 9999=n;unfold Instr.checkKey;cases kd<;>simp[X4S]at hp<;>cases v<;>simp[run_underlying hk]
theorem X0T {objs:List (Nat×Ob)} {g:Operand→RV} {ρ:Operand→Value} {o:Oper} {r:RV} (hh:HeapRel w0 B π F γ objs w)
  (hg:∀x,X9 F γ w (g x) (ρ x)) (h:evR P objs g o.op=some r):
  ∃v,(execOp ρ o).run P w=.ok (.value v) w∧X9 F γ w r v:=by
 unfold execOp;generalize o.op=op at*;unfold evR at h;split at h
 · -- load
   rename_i t x;have hx:=hg x;split at h
   · rename_i ti n off hti hgx;rw[hgx]at hx;obtain⟨b,hb,hv⟩:=hx;split at h
     · rename_i cs hl;obtain⟨b',e,vs,hb',hB,hh',hc⟩:=hh.ob n _ hl;rw[hb]at hb';cases hb'
       obtain⟨v,hrun,hrel⟩:=X0p (F:=F) (γ:=γ) (w:=w) hti (b:=b) (o:=0) (cells:=fun j=>vs.getD j undef) (xs:=cs) (fun j x hx=>by
        have hlt:j<vs.size:=by rw[hc.1];exact(List.getElem?_eq_some_iff.1 hx).1
        rw[cell_of_row w b _ vs e (0,0) hh'];simp[hlt]) (fun j x hx=>by
        have hlt:j<vs.size:=by rw[hc.1];exact(List.getElem?_eq_some_iff.1 hx).1
        exact hc.2 j x _ hx (by simp[hlt])) h
       refine⟨v,?_,hrel⟩;rw[Nat.zero_add]at hrun;simp[hv,Instr.loadAt,Instr.sureAddr,hrun]
     cases h
   · rename_i ti n s i off hti hgx;rw[hgx]at hx;obtain⟨b,oo,len,cap,hb,hv⟩:=hx;split at h
     · rename_i e s' rows hl;have hro:Xr F w B e s' (γ n) rows:=hh.ob n _ hl;rw[Zc hro.sl]at hb;rw[hb]at hro;split at h
       · rename_i hs;subst hs;split at h
         · rename_i rr hrr;obtain⟨v,hrun,hrel⟩:=X83 (γ:=γ) hti hro hrr h;refine⟨v,?_,hrel⟩;simp[hv,Instr.loadAt,Instr.sureAddr,hrun]
         cases h
       cases h
     · rename_i e e' s2 rows hl;split at h
       · rename_i hc;obtain⟨rfl,rfl,hag⟩:=hc;obtain⟨o,is,xs,hγ,h0,hlen,hown,hxs,hin⟩:=X3C hh hl;rw[hγ]at hb;have hbo:o=.slice (some ⟨b,oo,none⟩) len cap:=hb;obtain⟨i',d',z,hi,hdd,hz,h1,h2,h3,h4,h5⟩:=XC hti
         have hld:∀(v:Value) (r:Option (List (List CD))),is[i]? =some v→rows[i]? =some r→(loadVar t ⟨b,oo+(i*1+0),none⟩).run P w=.ok (ZV v r) w:=by
          intro v r hiv hr;have hc:=(hbo▸hown).cells i _ (hxs i v r hiv hr);rw[QW]at hc;simp[loadVar,Wg hdd,←h3,hag,hc]
         have hex:∀r,rows[i]? =some r→∃v,is[i]? =some v:=by
          intro r hr;have:i<is.length:=by rw[hlen];exact(List.getElem?_eq_some_iff.1 hr).1
          exact⟨is[i],List.getElem?_eq_getElem this⟩
         split at h
         · rename_i rs hrs;cases h;obtain⟨v,hiv⟩:=hex _ hrs;refine⟨v,?_,_,hγ,by simpa using hiv,by obtain⟨_,_,_,rfl⟩:=Xr.sl (hin i v _ hiv hrs);exact⟨rfl,by simp[undef]⟩⟩;have:=hld v _ hiv hrs;simp only[ZV]at this;simp[hv,Instr.loadAt,Instr.sureAddr,-Nat.mul_one,-Nat.add_zero,this]
         · rename_i hrs;cases h;obtain⟨v,hiv⟩:=hex _ hrs;refine⟨XW,?_,X9.mkLit _⟩;have:=hld v _ hiv hrs;simp only[ZV]at this;simp[hv,Instr.loadAt,Instr.sureAddr,-Nat.mul_one,-Nat.add_zero,this]
         cases h
       cases h
     · rename_i e ms hl;split at h
       · rename_i hc;obtain⟨rfl,rfl,hag⟩:=hc;obtain⟨o,is,xs,hγ,hlen,hown,hxs,hin⟩:=X3E hh hl;rw[hγ]at hb;have hbo:o=.slice (some ⟨b,oo,none⟩) len cap:=hb;obtain⟨i',d',z,hi,hdd,hz,h1,h2,h3,h4,h5⟩:=XC hti
         have hld:∀(v:Value) (r:Option (List (Value×CD))),is[i]? =some v→ms[i]? =some r→(loadVar t ⟨b,oo+(i*1+0),none⟩).run P w=.ok (X0s v r) w:=by
          intro v r hiv hr;have hc:=(hbo▸hown).cells i _ (hxs i v r hiv hr);rw[QW]at hc;simp[loadVar,Wg hdd,←h3,hag,hc]
         have hex:∀r,ms[i]? =some r→∃v,is[i]? =some v:=by
          intro r hr;have:i<is.length:=by rw[hlen];exact(List.getElem?_eq_some_iff.1 hr).1
          exact⟨is[i],List.getElem?_eq_getElem this⟩
         split at h
         · rename_i rs hrs;cases h;obtain⟨v,hiv⟩:=hex _ hrs;refine⟨v,?_,_,hγ,by simpa using hiv,by obtain⟨_,_,_,rfl,_⟩:=hin i v _ hiv hrs;exact⟨rfl,by simp[undef]⟩⟩;have:=hld v _ hiv hrs;simp only[X0s]at this;simp[hv,Instr.loadAt,Instr.sureAddr,-Nat.mul_one,-Nat.add_zero,this]
         · rename_i hrs;cases h;obtain⟨v,hiv⟩:=hex _ hrs;refine⟨.map none,?_,X9.mkLit _⟩;have:=hld v _ hiv hrs;simp only[X0s]at this;simp[hv,Instr.loadAt,Instr.sureAddr,-Nat.mul_one,-Nat.add_zero,this]
         cases h
       cases h
     cases h
   · rename_i ti n s i j off hti hgx;rw[hgx]at hx;obtain⟨vs,b,oo,len,cap,hvs,hb,hv⟩:=hx;split at h
     · rename_i e e' s' rows hl;split at h
       · rename_i hs;subst hs;split at h
         · rename_i rs hrs;split at h
           · rename_i rr hrr;obtain⟨v,hrun,hrel⟩:=X83 (γ:=γ) hti (X7l hh hl hrs hvs hb) hrr h;refine⟨v,?_,hrel⟩;simp[hv,Instr.loadAt,Instr.sureAddr,hrun]
           cases h
         cases h
       cases h
     cases h
   · rename_i ti cs hti hgx;rw[hgx]at hx;obtain⟨b,o',cells,hv,hF,hc,h1,hr⟩:=CRel.ptr_inv (show CRel F w (.ptr cs) (ρ x) from hx)
     obtain⟨v,hrun,hrel⟩:=X0p (F:=F) (γ:=γ) (w:=w) hti (b:=b) (o:=o') (cells:=cells) (xs:=cs.map .c) (fun j x hx=>by
      rw[List.getElem?_map]at hx;simp only[Option.map_eq_some_iff]at hx;obtain⟨d,hd,rfl⟩:=hx;exact hc j d hd) (fun j x hx=>by
      rw[List.getElem?_map]at hx;simp only[Option.map_eq_some_iff]at hx;obtain⟨d,hd,rfl⟩:=hx
      exact hr j d hd) h
     refine⟨v,?_,hrel⟩;rw[Nat.add_zero]at hrun;simp[hv,Instr.loadAt,Instr.sureAddr,hrun]
   cases h
 · -- indexAddr
   rename_i t x i;have hx:=hg x;split at h
   · rename_i k hk;have ek:=X9.lit_eq hk (hg i);split at h
     · rename_i hk0;obtain⟨m,rfl⟩:=Int.eq_ofNat_of_zero_le hk0;simp only[Int.toNat_natCast]at h;split at h
       · rename_i e he;have hu:=Q4 he;split at h
         · rename_i ti s rows hti hgx;obtain⟨i',d',z,hi,hd,hz,h1,h2,h3,h4,h5⟩:=XC hti;split at h
           · rename_i hs;subst hs;split at h
             · rename_i rr hrr;cases h;rw[hgx]at hx;have hlt:m<rows.length:=(List.getElem?_eq_some_iff.1 hrr).1;rcases CRel.sl_inv (show CRel F w (.sl ti.size rows) (ρ x) from hx)with⟨rfl,_⟩|⟨b,o',cap,cells,hv,hF,hcap,hmax,hs,hc,h1',hr⟩
               · simp at hrr
               refine⟨.pointer (some ⟨b,o'+m*ti.size,none⟩),?_,?_⟩
               · simp[hv,ek,Instr.indexAt,asIntOf,run_underlying hu,hlt,XA hi,h1,QW]
               have hget:∀j d,rr[j]? =some d→XG rows m j=some d:=fun j d hj=>by simp[XG,hrr,hj]
               refine CRel.ptr _ b _ (fun j=>cells m j) hF (fun j d hj=>?_) (fun j d hj=>h1' _ _ d (hget j d hj)) (fun j d hj=>hr _ _ d (hget j d hj));have:=hc m j d (hget j d hj)
               rwa [←Nat.add_assoc]at this
             cases h
           cases h
         · rename_i ti n hti hgx;obtain⟨i',d',z,hi,hd,hz,h1,h2,h3,h4,h5⟩:=XC hti;rw[hgx]at hx;obtain⟨hv,h1c⟩:=hx;split at h
           · rename_i e' s rows hl;split at h
             · rename_i hs;obtain⟨rfl,hlt⟩:=hs;replace hlt:=X3Y hlt;cases h;have hro:Xr F w B e' ti.size (γ n) rows:=hh.ob n _ hl;rw[Zc hro.sl]at hv;obtain⟨h0,hss,xs,hown,_⟩:=hro;rcases hown.2 with⟨_,hn⟩|⟨b,oo,cap,cur,hγ,Xj⟩
               · omega
               refine⟨.pointer (some ⟨b,oo+(m*ti.size+0),none⟩),?_,b,oo,_,_,by rw[hγ];rfl,rfl⟩;simp[hv,hγ,ek,Instr.indexAt,asIntOf,run_underlying hu,hlt,XA hi,h1,QW]
             cases h
           · rename_i e1 e' s rows hl;split at h
             · rename_i hs;obtain⟨hs1,hlt⟩:=hs;replace hlt:=X3Y hlt;cases h;obtain⟨o,is,xs,hγ,h0,hlen,hown,hxs,hin⟩:=X3C hh hl;have hvo:ρ x=o:=by rw[hv,hγ];rfl
               rcases hown.2 with⟨_,hn⟩|⟨b,oo,cap,cur,ho,Xj⟩
               · omega
               refine⟨.pointer (some ⟨b,oo+(m*1+0),none⟩),?_,b,oo,_,_,by rw[hγ];exact ho,rfl⟩;simp[hvo,ho,ek,Instr.indexAt,asIntOf,run_underlying hu,hlt,XA hi,h1,hs1,QW]
             cases h
           · rename_i e1 ms hl;split at h
             · rename_i hs;obtain⟨hs1,hlt⟩:=hs;replace hlt:=X3Y hlt;cases h;obtain⟨o,is,xs,hγ,hlen,hown,hxs,hin⟩:=X3E hh hl;have hvo:ρ x=o:=by rw[hv,hγ];rfl
               rcases hown.2 with⟨_,hn⟩|⟨b,oo,cap,cur,ho,Xj⟩
               · omega
               refine⟨.pointer (some ⟨b,oo+(m*1+0),none⟩),?_,b,oo,_,_,by rw[hγ];exact ho,rfl⟩;simp[hvo,ho,ek,Instr.indexAt,asIntOf,run_underlying hu,hlt,XA hi,h1,hs1,QW]
             cases h
           cases h
         · rename_i ti n i0 hti hgx;obtain⟨i',d',z,hi,hd',hz,h1,h2,h3,h4,h5⟩:=XC hti;rw[hgx]at hx;obtain⟨vs,hvs,hsub,_⟩:=hx;split at h
           · rename_i e1 e' s rows hl;split at h
             · rename_i rs hrs;split at h
               · rename_i hs;obtain⟨rfl,hlt⟩:=hs;replace hlt:=X3Y hlt;cases h;have hro:=X7l hh hl hrs hvs hsub;obtain⟨h0,hss,xs,hown,_⟩:=hro;rcases hown.2 with⟨_,hn⟩|⟨b,oo,cap,cur,hγ,Xj⟩
                 · omega
                 refine⟨.pointer (some ⟨b,oo+(m*ti.size+0),none⟩),?_,vs,b,oo,_,_,hvs,by rw[hsub,hγ],rfl⟩;simp[hγ,ek,Instr.indexAt,asIntOf,run_underlying hu,hlt,XA hi,h1,QW]
               cases h
             cases h
           cases h
         cases h
       unfold X7s at h;split at h
       · rename_i n e ha;have hu:=X5U ha;split at h
         · rename_i ti hti;obtain⟨i',d',z,hi,hd,hz,h1,h2,h3,h4,h5⟩:=XC hti;split at h
           · rename_i hlt;split at h
             · rename_i n' off hgx;cases h;rw[hgx]at hx;obtain⟨b,hb,hv⟩:=hx;refine⟨.pointer (some ⟨b,off+m*ti.size,none⟩),?_,b,hb,rfl⟩;simp[hv,ek,Instr.indexAt,Instr.sureAddr,asIntOf,run_underlying hu,hlt,XA hi,h1,QW]
             · rename_i n' s i' off hgx;cases h;rw[hgx]at hx;obtain⟨b,oo,len,cap,hb,hv⟩:=hx;refine⟨.pointer (some ⟨b,_,none⟩),?_,b,oo,len,cap,hb,rfl⟩;simp[hv,ek,Instr.indexAt,Instr.sureAddr,asIntOf,run_underlying hu,hlt,XA hi,h1,QW,Nat.add_assoc]
             · rename_i cs hgx;cases h;rw[hgx]at hx;obtain⟨b,o',cells,hv,hF,hc,h1',hr⟩:=CRel.ptr_inv (show CRel F w (.ptr cs) (ρ x) from hx);refine⟨.pointer (some ⟨b,o'+m*ti.size,none⟩),?_,?_⟩
               · simp[hv,ek,Instr.indexAt,Instr.sureAddr,asIntOf,run_underlying hu,hlt,XA hi,h1,QW]
               refine CRel.ptr _ b _ (fun j=>cells (m*ti.size+j)) hF ?_ ?_ ?_
               · intro j d hj;rw[List.getElem?_drop]at hj;rw[Nat.add_assoc];exact hc _ d hj
               · intro j d hj;rw[List.getElem?_drop]at hj;exact h1' _ d hj
               intro j d hj;rw[List.getElem?_drop]at hj;exact hr _ d hj
             cases h
           cases h
         cases h
       cases h
     cases h
   cases h
 · -- len
   rename_i args ts;split at h
   · rename_i t x ht hxx;have hx:=hg x;split at h
     · rename_i e s rows he hgx;cases h;have hu:=Q4 he;rw[hgx]at hx;refine⟨_,?_,X9.mkLit _⟩;rcases CRel.sl_inv (show CRel F w (.sl s rows) (ρ x) from hx)with⟨rfl,hv|⟨a,c,hv⟩⟩|⟨b,o',cap,cells,hv,_⟩
       · simp[resolve,invoke,builtin,Builtin.len_,ht,hxx,hv,run_underlying hu,goInt]
       · simp[resolve,invoke,builtin,Builtin.len_,ht,hxx,hv,run_underlying hu,goInt]
       simp[resolve,invoke,builtin,Builtin.len_,ht,hxx,hv,run_underlying hu,goInt]
     · rename_i e a n c he hgx;cases h;have hu:=Q4 he;rw[hgx]at hx;have hv:ρ x=.slice a n c:=X9.lit_eq rfl hx;refine⟨_,?_,X9.mkLit _⟩;simp[resolve,invoke,builtin,Builtin.len_,ht,hxx,hv,run_underlying hu,goInt]
     · rename_i e n he hgx;rw[hgx]at hx;obtain⟨hv,_⟩:=hx;have hu:=Q4 he;split at h
       · rename_i e' s rows hl;cases h;have hro:Xr F w B e' s (γ n) rows:=hh.ob n _ hl;rw[Zc hro.sl]at hv;obtain⟨h0,hss,xs,hown,_⟩:=hro;refine⟨_,?_,X9.mkLit _⟩;rcases hown.2 with⟨hγ,hn⟩|⟨b,oo,cap,cur,hγ,Xj⟩
         · simp[resolve,invoke,builtin,Builtin.len_,ht,hxx,hv,hγ,hn,run_underlying hu,goInt]
         simp[resolve,invoke,builtin,Builtin.len_,ht,hxx,hv,hγ,run_underlying hu,goInt]
       · rename_i e1 e' s rows hl;cases h;obtain⟨o,is,xs,hγ,h0,hlen,hown,hxs,hin⟩:=X3C hh hl;have hvo:ρ x=o:=by rw[hv,hγ];rfl
         refine⟨_,?_,X9.mkLit _⟩;rcases hown.2 with⟨ho,hn⟩|⟨b,oo,cap,cur,ho,Xj⟩
         · simp[resolve,invoke,builtin,Builtin.len_,ht,hxx,hvo,ho,hn,run_underlying hu,goInt]
         simp[resolve,invoke,builtin,Builtin.len_,ht,hxx,hvo,ho,run_underlying hu,goInt]
       · rename_i e1 ms hl;cases h;obtain⟨o,is,xs,hγ,hlen,hown,hxs,hin⟩:=X3E hh hl;have hvo:ρ x=o:=by rw[hv,hγ];rfl
         refine⟨_,?_,X9.mkLit _⟩;rcases hown.2 with⟨ho,hn⟩|⟨b,oo,cap,cur,ho,Xj⟩
         · simp[resolve,invoke,builtin,Builtin.len_,ht,hxx,hvo,ho,hn,run_underlying hu,goInt]
         simp[resolve,invoke,builtin,Builtin.len_,ht,hxx,hvo,ho,run_underlying hu,goInt]
       cases h
     · rename_i e n i0 he hgx;rw[hgx]at hx;obtain⟨vs,hvs,hsub,_⟩:=hx;have hu:=Q4 he;split at h
       · rename_i e1 e' s rows hl;split at h
         · rename_i rs hrs;cases h;obtain⟨h0,hss,xs,hown,_⟩:=X7l hh hl hrs hvs hsub;refine⟨_,?_,X9.mkLit _⟩;rcases hown.2 with⟨hγ,hn⟩|⟨b,oo,cap,cur,hγ,Xj⟩
           · simp[resolve,invoke,builtin,Builtin.len_,ht,hxx,hγ,hn,run_underlying hu,goInt]
           simp[resolve,invoke,builtin,Builtin.len_,ht,hxx,hγ,run_underlying hu,goInt]
         cases h
       cases h
     · rename_i sb he hgx;split at h
       · rename_i hs;cases h;rw[hgx]at hx;have hv:ρ x=.string sb:=X9.lit_eq rfl hx;refine⟨_,?_,X9.mkLit _⟩;simp[resolve,invoke,builtin,Builtin.len_,ht,hxx,hv,run_underlying (X2d hs),goInt]
       cases h
     cases h
   cases h
 · -- lookup
   rename_i t x i ok;split at h
   · rename_i kd z kv l hm hk hmo;obtain⟨k,e,hu,huk,hz,hp,hz1⟩:=X4f hm;have ek:=X9.lit_eq hk (hg i);have hx:=hg x
     -- the entries
     have hes:∃es:Array MapEntry,es.toList.map (·.key)=l.map (·.1)∧(∀(j:Nat) k d e,l[j]? =some (k,d)→es[j]? =some e→CRel F w d e.val)∧
       ∀r,Instr.findNow kd kv es.toList 0=some r→(Instr.lookup t (ρ x) (ρ i) ok).run P w=.ok (if ok=true then .tuple #[(r.map (·.2)).getD z,.bool r.isSome] else(r.map (·.2)).getD z) w:=by
      have fin:∀(es:Array MapEntry),((ρ x=.map none∧es= #[])∨∃b clock,ρ x=.map (some b)∧w.heap[b]? =some (.map es clock))→
        ∀r,Instr.findNow kd kv es.toList 0=some r→(Instr.lookup t (ρ x) (ρ i) ok).run P w=.ok (if ok=true then .tuple #[(r.map (·.2)).getD z,.bool r.isSome] else(r.map (·.2)).getD z) w:=by
       intro es hes r hr;rw[ek];rcases hes with⟨hv,rfl⟩|⟨b,clock,hv,hb⟩
       · rw[hv];cases r with
         |none=>cases ok<;>simp[Instr.lookup,run_underlying hu,WE huk hp,Instr.findKey,run_underlying huk,Instr.findNow,hz]
         |some p=>simp[Instr.findNow]at hr
       rw[hv];cases r with
       |none=>cases ok<;>simp[Instr.lookup,run_underlying hu,MapKept.run_getObj_map hb,WE huk hp,Instr.findKey,run_underlying huk,hr,hz]
       |some p=>cases ok<;>simp[Instr.lookup,run_underlying hu,MapKept.run_getObj_map hb,WE huk hp,Instr.findKey,run_underlying huk,hr]
      unfold X6b at hmo;split at hmo
      · rename_i l' hgx;cases hmo;rw[hgx]at hx;have hx':CRel F w (.mp l) (ρ x):=hx;generalize ρ x=v at hx' fin⊢;cases hx' with
        |mnil=>exact⟨#[],rfl,by simp,fin #[] (.inl ⟨rfl,rfl⟩)⟩
        |mp _ b es clock hF hb hk' hn' hr'=>exact⟨es,hk',hr',fin es (.inr ⟨b,clock,rfl,hb⟩)⟩
      · rename_i hgx;cases hmo;rw[hgx]at hx;have hv:ρ x=.map none:=X9.lit_eq rfl hx;exact⟨#[],rfl,by simp,fin #[] (.inl ⟨hv,rfl⟩)⟩
      · rename_i n hgx;split at hmo
        · rename_i l' hl;cases hmo;rw[hgx]at hx;obtain⟨hv,_⟩:=hx;obtain⟨b,es,clock,hγ,hB,hb,hk',hn',hr'⟩:=hh.ob n _ hl;have hv':ρ x=.map (some b):=by rw[hv,hγ];rfl
          exact⟨es,hk',hr',fin es (.inr ⟨b,clock,hv',hb⟩)⟩
        cases hmo
      · rename_i n i0 hgx;split at hmo
        · rename_i e1 ms hl;split at hmo
          · rename_i l' hms;cases hmo;rw[hgx]at hx;obtain⟨vs,hvs,hsub,_⟩:=hx;obtain⟨b,es,clock,hv',hB,hb,hk',hn',hr'⟩:=sub_map hh hl hms hvs hsub;exact⟨es,hk',hr',fin es (.inr ⟨b,clock,hv',hb⟩)⟩
          cases hmo
        cases hmo
      cases hmo
     obtain⟨es,he1,he2,hfin⟩:=hes
     have res:∀(d:CD) (v:Value) (b:Bool),CRel F w d v→X9 F γ w (X2F ok d b) (if ok=true then .tuple #[v,.bool b] else v):=by
      intro d v b hd;unfold X2F;cases ok with
      | true=>
        refine⟨#[v,.bool b],rfl,rfl,fun j t u ht hu=>?_⟩
        match j with
        |0=>cases ht;cases hu;exact hd
        |1=>cases ht;cases hu;exact CRel.lit _
        |j+2=>simp at ht
      |false=>exact hd
     split at h
     · rename_i d hf;cases h;obtain⟨j,v,h1,h2⟩:=ZG 0 he1 (fun j k d e h1 h2=>he2 j k d e h1 (by simpa using h2)) hf;have:=hfin _ h1;refine⟨_,?_,res d v true h2⟩;rw[Sem.run_bind,this];rfl
     · rename_i hf;cases h;have h1:=ZG 0 he1 (fun j k d e h1 h2=>he2 j k d e h1 (by simpa using h2)) hf;have:=hfin _ h1;refine⟨_,?_,res (.lit z) z false (CRel.lit z)⟩;rw[Sem.run_bind,this];rfl
     cases h
   cases h
 · -- entry
   rename_i x;have hx:=hg x;unfold X3u at h;split at h
   · rename_i n hgx;split at h
     · rename_i l seen hl;split at h
       · rename_i j hj;split at h
         · rename_i k d hkd;cases h;rw[hgx]at hx;obtain⟨b,hγ,hv⟩:=hx;obtain⟨b',hγ',hB,hit⟩:=hh.ob n _ hl;rw[hγ]at hγ';cases hγ';rcases hit with⟨rfl,_⟩|⟨m,es,clock,sn,hhp,hFm,hhm,hk,⟨hp1,hp2⟩,X8u,hsn⟩
           · simp at hkd
           have hlen:es.size=l.length:=by have:=congrArg List.length hk;simpa using this
           obtain⟨e,he⟩:∃e,es[j]? =some e:=⟨es[j]'(by rw[hlen];exact(List.getElem?_eq_some_iff.1 hkd).1),Array.getElem?_eq_getElem _⟩
           have hkk:e.key=k:=by
            have:=congrArg (·[j]?) hk;simp only[List.getElem?_map,Array.getElem?_toList,he,hkd,Option.map_some,Option.some.injEq]at this;exact this
           obtain⟨s0,rfl⟩:∃s0,seen=s0++[j]:=by
            refine⟨seen.dropLast,?_⟩;have hne:seen≠[]:=by rintro rfl;simp at hj
            rw[List.getLast?_eq_some_getLast hne]at hj;have:=List.dropLast_concat_getLast hne;rw[Option.some.inj hj]at this;exact this.symm
           have hsn2:sn=(s0.filterMap fun j=>(es[j]?).map (·.born)).toArray.push e.born:=by
            apply Array.ext';rw[hsn,Array.toList_push,List.filterMap_append];simp[he]
           rw[hsn2]at hhp
           have hnd:(es.toList.map (·.born)).Nodup:=by
            rw[List.Nodup,List.pairwise_map];exact hp1.imp fun h=>by omega
           have hrun:=run_entry_at (P:=P) w b m clock _ es clock e hhp hhm (Array.mem_toList_iff.2 (Array.mem_of_getElem? he)) hnd;refine⟨.tuple #[e.key,e.val],?_,⟨#[e.key,e.val],rfl,rfl,fun q t u ht hu=>?_⟩⟩
           · simp[hv,hrun]
           match q with
           |0=>cases ht;cases hu;rw[hkk];exact CRel.lit _
           |1=>cases ht;cases hu;exact X8u j k d e hkd he
           |q+2=>simp at ht
         cases h
       cases h
     cases h
   cases h
 cases h
end
end Go.Hl
