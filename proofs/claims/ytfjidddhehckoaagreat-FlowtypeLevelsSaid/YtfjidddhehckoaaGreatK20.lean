/- Part 20: contracts of functions of the program and of the reference, and plain facts about what they compute; used by the proof of the claimed statement. Conditions: as each theorem states. -/
import Derived.Test.YtfjidddhehckoaaGreatK19
import Derived.Shelf.Slices.CompactI
import Derived.Shelf.Sort.Plain
import Derived.Shelf.Slices.In.SortNone
import Derived.Test.YtfjidddhehckoaaGreatK16
import Derived.Test.YtfjidddhehckoaaGreatK13
set_option linter.unusedSimpArgs false
set_option linter.unusedVariables false
set_option linter.unnecessarySimpa false
set_option maxRecDepth 100000
set_option maxHeartbeats 2000000
namespace Go.Proofs.YtfjidddhehckoaaGreat
open Go Go.Hl Go.Shelf Go.Sort
def sortR:Ren:=⟨fun f=>if f=125 then 95 else if f=128 then 140 else if f=129 then 141 else if f=189 then 56 else if f=215 then 169 else if f=216 then 137 else if f=257 then 94 else if f=294 then 131 else if f=295 then 132 else if f=296 then 133 else if f=297 then 134 else if f=298 then 135 else if f=299 then 136 else if f=300 then 138 else if f=301 then 139 else if f=328 then 164 else if f=329 then 165 else if f=330 then 166 else if f=331 then 167 else if f=332 then 168 else if f=343 then 186 else f,fun t=>if t=0 then 0 else if t=3 then 3 else if t=4 then 4 else if t=5 then 5 else if t=9 then 9 else if t=28 then 32 else if t=46 then 157 else if t=51 then 191 else if t=53 then 193 else if t=131 then 137 else if t=182 then 184 else if t=183 then 185 else if t=218 then 210 else if t=222 then 214 else if t=228 then 227 else if t=229 then 178 else t,fun g=>g⟩
theorem sortL:Lays.n189 Tryz.prog sortR where
 mixed:=by kernel_rfl
 f125:=by kernel_rfl
 f128:=by kernel_rfl
 f129:=by kernel_rfl
 f189:=by kernel_rfl
 f215:=by kernel_rfl
 f216:=by kernel_rfl
 f257:=by kernel_rfl
 f294:=by kernel_rfl
 f295:=by kernel_rfl
 f296:=by kernel_rfl
 f297:=by kernel_rfl
 f298:=by kernel_rfl
 f299:=by kernel_rfl
 f300:=by kernel_rfl
 f301:=by kernel_rfl
 f328:=by kernel_rfl
 f329:=by kernel_rfl
 f330:=by kernel_rfl
 f331:=by kernel_rfl
 f332:=by kernel_rfl
 f343:=by kernel_rfl
 t0:=by kernel_rfl
 a0:=fun w=>rfl
 z0:=fun w=>rfl
 v0:=fun w=>rfl
 t3:=by kernel_rfl
 a3:=fun w=>rfl
 z3:=fun w=>rfl
 v3:=fun w=>rfl
 t4:=by kernel_rfl
 a4:=fun w=>rfl
 z4:=fun w=>rfl
 v4:=fun w=>rfl
 t5:=by kernel_rfl
 a5:=fun w=>rfl
 z5:=fun w=>rfl
 v5:=fun w=>rfl
 t9:=by kernel_rfl
 a9:=fun w=>rfl
 z9:=fun w=>rfl
 v9:=fun w=>rfl
 t28:=by kernel_rfl
 a28:=fun w=>rfl
 z28:=fun w=>rfl
 v28:=fun w=>rfl
 t46:=by kernel_rfl
 a46:=fun w=>rfl
 z46:=fun w=>rfl
 v46:=fun w=>rfl
 t51:=by kernel_rfl
 a51:=fun w=>rfl
 z51:=fun w=>rfl
 v51:=fun w=>rfl
 t53:=by kernel_rfl
 a53:=fun w=>rfl
 z53:=fun w=>rfl
 v53:=fun w=>rfl
 t131:=by kernel_rfl
 a131:=fun w=>rfl
 z131:=fun w=>rfl
 v131:=fun w=>rfl
 t182:=by kernel_rfl
 a182:=fun w=>rfl
 z182:=fun w=>rfl
 v182:=fun w=>rfl
 t183:=by kernel_rfl
 a183:=fun w=>rfl
 z183:=fun w=>rfl
 v183:=fun w=>rfl
 t218:=by kernel_rfl
 a218:=fun w=>rfl
 z218:=fun w=>rfl
 v218:=fun w=>rfl
 t222:=by kernel_rfl
 a222:=fun w=>rfl
 z222:=fun w=>rfl
 v222:=fun w=>rfl
 t228:=by kernel_rfl
 a228:=fun w=>rfl
 z228:=fun w=>rfl
 v228:=fun w=>rfl
 t229:=by kernel_rfl
 a229:=fun w=>rfl
 z229:=fun w=>rfl
 v229:=fun w=>rfl
def compR:Ren:=⟨fun f=>if f=20 then 57 else f,fun t=>if t=0 then 0 else if t=3 then 3 else if t=4 then 4 else if t=22 then 32 else t,fun g=>g⟩
theorem compL:Lays2.n20 Tryz.prog compR where
 mixed:=by kernel_rfl
 f20:=by kernel_rfl
 t0:=by kernel_rfl
 a0:=fun w=>rfl
 z0:=fun w=>rfl
 v0:=fun w=>rfl
 t3:=by kernel_rfl
 a3:=fun w=>rfl
 z3:=fun w=>rfl
 v3:=fun w=>rfl
 t4:=by kernel_rfl
 a4:=fun w=>rfl
 z4:=fun w=>rfl
 v4:=fun w=>rfl
 t22:=by kernel_rfl
 a22:=fun w=>rfl
 z22:=fun w=>rfl
 v22:=fun w=>rfl
 i3:=by kernel_rfl
structure RowOut (w w':World) (g:Nat) (ys:List Int):Prop where
 os:w'.os=w.os
 tape:w'.tape=w.tape
 output:w'.output=w.output
 size:w.heap.size≤w'.heap.size
 other:∀k,k<w.heap.size→k≠g→w'.heap[k]? =w.heap[k]?
 cells:∀cur t x,w.heap[g]? =some (.cells cur t x)→∃cur':Array Value,w'.heap[g]? =some (.cells cur' t x)∧cur'.size=cur.size∧∀k (hk:k<ys.length),k<cur.size→cur'[k]? =some (.int .i64 ys[k])
theorem rowOut_put (w:World) (q g:Nat) (os:Array Obj) (ys:List Int) (m:Nat) (hg:g<w.heap.size):RowOut w (grow (putRow (Value.int .i64) (Sort.ahead w q) g 0 (ys++List.replicate m 0).toArray) os) g ys:=by
 have hsz:(putRow (Value.int .i64) (Sort.ahead w q) g 0 (ys++List.replicate m 0).toArray).heap.size=w.heap.size:=by simp[putRow,mapBlock]
 refine⟨rfl,rfl,rfl,by simp only[grow,Array.size_append,hsz];omega,fun k hk hne=>?_,fun cur t x hc=>?_⟩
 · rw[heap_grow_old _ _ (by rw[hsz];exact hk)];simp only[putRow,mapBlock,heap_ahead,Array.getElem?_modify];rw[if_neg fun h=>hne h.symm]
 refine⟨putCells (Value.int .i64) 0 (ys++List.replicate m 0).toArray cur,?_,by simp[putCells],fun k hk hkc=>?_⟩
 · rw[heap_grow_old _ _ (by rw[hsz];exact hg)];simp only[putRow,mapBlock,heap_ahead,Array.getElem?_modify,if_true,hc];rfl
 simp only[putCells,Array.getElem?_mapIdx,Array.getElem?_eq_getElem hkc,Option.map_some,Nat.zero_add,Nat.sub_zero];rw[if_pos ⟨Nat.zero_le _,by simp;omega⟩];congr 2;rw[getElem!_pos _ k (by simp;omega)];simp[hk]
theorem getRC_I2 {zs:List Int} {a b:Nat} {d:CD} (h:getRC (encIs zs) a b=some d):b=0∧∃n,zs[a]? =some n∧d=iC n:=by
 unfold getRC at h;rw[get_encI]at h;cases hz:zs[a]? with
 |none=>rw[hz]at h;cases h
 | some n=>
   rw[hz]at h;cases b with
   |zero=>cases h;exact⟨rfl,n,rfl,rfl⟩
   |succ b=>cases h
theorem row_con {f:FuncId} (hcall:callable Tryz.prog f=true) (zs ys:List Int) (hz:0<zs.length) (hle:ys.length≤zs.length) (r:RV) (rv:Nat→Nat→Value) (hr:∀(F:Nat→Prop) (γ:Nat→Value) (w:World) (g cap:Nat),γ 900001=.slice (some ⟨g,0,none⟩) ys.length cap→RVRel F γ w r (rv g cap))
  (key:∀(g cap:Nat) (w:World),Holds (Value.int .i64) w g 0 zs.toArray→g<w.heap.size→zs.length≤cap→cap≤maxLen→Calls Tryz.prog f #[.slice (some ⟨g,0,none⟩) zs.length cap] w fun e w'=>e=.returned (rv g cap)∧RowOut w w' g ys):
  ConS Tryz.prog f [(900001,.row 3 1 (encIs zs))] [.one (.own 900001)] r [(900001,.row 3 1 (encIs ys))]:=by
 refine⟨hcall,fun F γ w vs hh hsz hargs=>?_⟩;have hob:=hh.ob 900001 _ rfl;have hap:=hh.apart 900001 _ rfl;obtain⟨h0,hrs,xs,⟨hxl,hown⟩,hx1,hc⟩:=hob;rcases hown with⟨_,hn⟩|⟨g,cap,cur,hv,hB,hg,hcap,hmax,hcs,htake⟩
 · rw[len_encI]at hn;omega
 rw[len_encI]at hxl hcap htake hv;rw[Nat.mul_one]at hxl htake hcs;obtain⟨l⟩:=vs
 match l,hsz with
 | [v0],_=>
   have a0:CVRel F γ w (.own 900001) v0:=hargs 0 _ v0 rfl rfl;have e0:v0=.slice (some ⟨g,0,none⟩) zs.length cap:=by rw[a0.1,hv];rfl
   subst e0
   have hcur:∀k (hk:k<zs.length),cur[k]? =some (.int .i64 zs[k]):=by
    intro k hk;obtain⟨u,hu,hr⟩:=hc k 0 (iC zs[k]) (by unfold getRC;rw[get_encI];simp[hk]);cases hr;have:xs[k]? =cur[k]? :=by rw[←htake,List.getElem?_take,if_pos hk,Array.getElem?_toList]
    rw[←this];simpa using hu
   have hH:Holds (Value.int .i64) w g 0 zs.toArray:=by
    intro k hk;have hk':k<zs.length:=by simpa using hk
    refine⟨?_,?_⟩
    · have:w.cell? ⟨g,0+k,none⟩=cur[k]? :=by simp[World.cell?,hg]
      rw[this,hcur k hk'];simp[hk']
    simp[World.frozen?,hg]
   have hgs:g<w.heap.size:=(Array.getElem?_eq_some_iff.1 hg).1;refine(key g cap w hH hgs hcap hmax).mono ?_;rintro e w' ⟨rfl,hout⟩;obtain⟨cur',hg',hcs',hcell⟩:=hout.cells cur _ _ hg
   have hkept:Kept (ownB γ [(900001,.row 3 1 (encIs zs))] w) w w':=
    ⟨hout.os,hout.tape,hout.output,hout.size,fun k hk=>hout.other k hk.1 fun e=>by subst e;exact hB hk⟩
   have hnF:¬F g:=hap g (by rw[hv];rfl)
   let γ':Nat→Value:=fun n=>if n=900001 then .slice (some ⟨g,0,none⟩) ys.length cap else γ n
   have hγ:γ' 900001=.slice (some ⟨g,0,none⟩) ys.length cap:=rfl
   have hrow:RowRel (fun c=>F c∨False) w' (ownB γ [(900001,.row 3 1 (encIs zs))] w) 3 1 (γ' 900001) (encIs ys):=by
    refine⟨by decide,?_,ys.map (Value.int .i64),⟨by simp,.inr ⟨g,cap,cur',?_,hB,hg',by rw[len_encI];omega,hmax,?_,?_⟩⟩,?_,?_⟩
    · intro r hr;simp only[encIs,List.mem_map]at hr;obtain⟨n,_,rfl⟩:=hr;rfl
    · rw[hγ,len_encI]
    · rw[hcs',Nat.mul_one,hcs]
    · rw[len_encI,Nat.mul_one];apply List.ext_getElem?;intro k;rw[List.getElem?_take,List.getElem?_map];by_cases hk:k<ys.length
      · rw[if_pos hk,Array.getElem?_toList,hcell k hk (by omega)];simp[hk]
      rw[if_neg hk,List.getElem?_eq_none (by omega)];rfl
    · intro u hu;obtain⟨n,_,rfl⟩:=List.mem_map.1 hu;rfl
    intro a b d hd;obtain⟨rfl,n,hn,rfl⟩:=getRC_I2 hd;exact⟨.int .i64 n,by simp[hn],CRel.lit _⟩
   have hblk:∀b,Blk (γ' 900001) b↔b=g:=by
    intro b;rw[hγ];exact⟨fun h=>by cases h;rfl,fun h=>by subst h;rfl⟩
   have hlook:∀n o,lkp [(900001,Ob.row 3 1 (encIs ys))] n=some o→n=900001∧o=.row 3 1 (encIs ys):=by
    intro n o hl;simp only[lkp]at hl;split at hl
    · rename_i e;cases hl;exact⟨e.symm,rfl⟩
    cases hl
   refine⟨_,fun _=>False,γ',rfl,hkept,fun c hc=>hc.elim,hr _ γ' w' g cap hγ,?_,fun n cs hl=>?_⟩
   · exact {
      below:=hkept
      hB:=fun b hb=>Nat.lt_of_lt_of_le hb.1 hout.size
      fsz:=fun c hc=>Nat.lt_of_lt_of_le (hh.fsz c (hc.resolve_right id)) hout.size
      ob:=fun n o hl=>by
       obtain⟨rfl,rfl⟩:=hlook n o hl;exact hrow
      apart:=fun n o hl b hb hFb=>by
       obtain⟨rfl,rfl⟩:=hlook n o hl;rw[hblk]at hb;subst hb;exact hnF (hFb.resolve_right id)
      sep:=fun n m on om hn hm hne=>by
       obtain⟨rfl,_⟩:=hlook n on hn;obtain⟨rfl,_⟩:=hlook m om hm;exact absurd rfl hne
      pin:=fun n v hv=>by cases hv}
   simp only[lkp]at hl;split at hl
   · cases hl
   cases hl
theorem compact_con (zs:List Int) (hz:0<zs.length) (hl:zs.length≤17592186044416):
  ConS Tryz.prog 57 [(900001,.row 3 1 (encIs zs))] [.one (.own 900001)] (.v (.one (.own 900001))) [(900001,.row 3 1 (encIs (Lib.compact zs)))]:=by
 have hle:(Lib.compact zs).length≤zs.length:=by
  unfold Lib.compact Lib.compactUpTo;rw[List.length_map];exact Nat.le_trans (List.length_filter_le _ _) (by simp)
 refine row_con (by kernel_rfl) zs _ hz hle _ (fun g cap=>.slice (some ⟨g,0,none⟩) (Lib.compact zs).length cap) (fun F γ w g cap h=>⟨by rw[h];rfl,rfl⟩) fun g cap w hH hg hcap hmax=>?_;have h:=Any.slices_Compact_int compL g 0 cap zs w hH (by omega) hcap;refine h.mono ?_;rintro e w' ⟨rfl,q,rfl⟩;refine⟨rfl,?_⟩;have:=rowOut_put w q g #[] (Lib.compact zs) (zs.length - (Lib.compact zs).length) hg;have hgr:∀v:World,grow v #[]=v:=fun v=>by simp[grow]
 rwa [hgr]at this
theorem rowF_con {f:FuncId} (hcall:callable Tryz.prog f=true) (zs ys:List Int) (hz:0<zs.length) (hle:ys.length=zs.length) (rest:List (Nat×Ob)) (h9:∀m o,lkp rest m=some o→m≠900001)
  (key:∀(g cap:Nat) (w:World),Holds (Value.int .i64) w g 0 zs.toArray→g<w.heap.size→zs.length≤cap→cap≤maxLen→Calls Tryz.prog f #[.slice (some ⟨g,0,none⟩) zs.length cap] w fun e w'=>e=.returned (.tuple #[])∧RowOut w w' g ys):
  ConS Tryz.prog f ((900001,.row 3 1 (encIs zs))::rest) [.one (.own 900001)] (.tup []) ((900001,.row 3 1 (encIs ys))::rest):=by
 refine⟨hcall,fun F γ w vs hh hsz hargs=>?_⟩;have hob:=hh.ob 900001 _ rfl;have hap:=hh.apart 900001 _ rfl;obtain⟨h0,hrs,xs,⟨hxl,hown⟩,hx1,hc⟩:=hob;rcases hown with⟨_,hn⟩|⟨g,cap,cur,hv,hB,hg,hcap,hmax,hcs,htake⟩
 · rw[len_encI]at hn;omega
 rw[len_encI]at hxl hcap htake hv;rw[Nat.mul_one]at hxl htake hcs;obtain⟨l⟩:=vs
 match l,hsz with
 | [v0],_=>
   have a0:CVRel F γ w (.own 900001) v0:=hargs 0 _ v0 rfl rfl;have e0:v0=.slice (some ⟨g,0,none⟩) zs.length cap:=by rw[a0.1,hv];rfl
   subst e0
   have hcur:∀k (hk:k<zs.length),cur[k]? =some (.int .i64 zs[k]):=by
    intro k hk;obtain⟨u,hu,hr⟩:=hc k 0 (iC zs[k]) (by unfold getRC;rw[get_encI];simp[hk]);cases hr;have:xs[k]? =cur[k]? :=by rw[←htake,List.getElem?_take,if_pos hk,Array.getElem?_toList]
    rw[←this];simpa using hu
   have hH:Holds (Value.int .i64) w g 0 zs.toArray:=by
    intro k hk;have hk':k<zs.length:=by simpa using hk
    refine⟨?_,?_⟩
    · have:w.cell? ⟨g,0+k,none⟩=cur[k]? :=by simp[World.cell?,hg]
      rw[this,hcur k hk'];simp[hk']
    simp[World.frozen?,hg]
   have hgs:g<w.heap.size:=(Array.getElem?_eq_some_iff.1 hg).1;refine(key g cap w hH hgs hcap hmax).mono ?_;rintro e w' ⟨rfl,hout⟩;obtain⟨cur',hg',hcs',hcell⟩:=hout.cells cur _ _ hg
   have hkept:Kept (ownB γ ((900001,.row 3 1 (encIs zs))::rest) w) w w':=
    ⟨hout.os,hout.tape,hout.output,hout.size,fun k hk=>hout.other k hk.1 fun e=>by subst e;exact hB hk⟩
   have hnF:¬F g:=hap g (by rw[hv];rfl);have hγ:γ 900001=.slice (some ⟨g,0,none⟩) ys.length cap:=by rw[hle,hv]
   have hrow:RowRel (fun c=>F c∨False) w' (ownB γ ((900001,.row 3 1 (encIs zs))::rest) w) 3 1 (γ 900001) (encIs ys):=by
    refine⟨by decide,?_,ys.map (Value.int .i64),⟨by simp,.inr ⟨g,cap,cur',?_,hB,hg',by rw[len_encI];omega,hmax,?_,?_⟩⟩,?_,?_⟩
    · intro r hr;simp only[encIs,List.mem_map]at hr;obtain⟨n,_,rfl⟩:=hr;rfl
    · rw[hγ,len_encI]
    · rw[hcs',Nat.mul_one,hcs]
    · rw[len_encI,Nat.mul_one];apply List.ext_getElem?;intro k;rw[List.getElem?_take,List.getElem?_map];by_cases hk:k<ys.length
      · rw[if_pos hk,Array.getElem?_toList,hcell k hk (by omega)];simp[hk]
      rw[if_neg hk,List.getElem?_eq_none (by omega)];rfl
    · intro u hu;obtain⟨n,_,rfl⟩:=List.mem_map.1 hu;rfl
    intro a b d hd;obtain⟨rfl,n,hn,rfl⟩:=getRC_I2 hd;exact⟨.int .i64 n,by simp[hn],CRel.lit _⟩
   have hblk:Blk (γ 900001) g:=by rw[hγ];rfl
   have hlook:∀n o,lkp ((900001,Ob.row 3 1 (encIs ys))::rest) n=some o→(n=900001∧o=.row 3 1 (encIs ys))∨(n≠900001∧lkp ((900001,Ob.row 3 1 (encIs zs))::rest) n=some o):=by
    intro n o hl;simp only[lkp]at hl⊢;split at hl
    · rename_i e;cases hl;exact .inl ⟨e.symm,rfl⟩
    rename_i e;rw[if_neg e];exact .inr ⟨fun h=>e h.symm,hl⟩
   have hold:∀n o,lkp ((900001,Ob.row 3 1 (encIs ys))::rest) n=some o→∃o0,lkp ((900001,Ob.row 3 1 (encIs zs))::rest) n=some o0:=by
    intro n o hl;rcases hlook n o hl with⟨rfl,_⟩|⟨_,h⟩
    · exact⟨_,rfl⟩
    exact⟨_,h⟩
   have hoth:∀b,b<w.heap.size→b≠g→w'.heap[b]? =w.heap[b]? :=fun b h1 h2=>hout.other b h1 h2;refine⟨_,fun _=>False,γ,rfl,hkept,fun c hc=>hc.elim,⟨#[],rfl,rfl,fun j t u h1 h2=>by simp at h1⟩,?_,fun n cs hl=>rfl⟩
   exact {
    below:=hkept
    hB:=fun b hb=>Nat.lt_of_lt_of_le hb.1 hout.size
    fsz:=fun c hc=>Nat.lt_of_lt_of_le (hh.fsz c (hc.resolve_right id)) hout.size
    ob:=fun n o hl=>by
     rcases hlook n o hl with⟨rfl,rfl⟩|⟨hne,h⟩
     · exact hrow
     exact(hh.ob n o h).mono (fun b hb=>.inl hb) (fun b hb=>hoth b (hh.fsz b hb) fun e=>hnF (e▸hb)) (fun b hb=>hoth b ((hh.ob n o h).blk_lt hb).2 fun e=>hh.sep n 900001 _ _ h rfl hne b hb (e▸hblk))
    apart:=fun n o hl b hb hFb=>by
     obtain⟨o0,h⟩:=hold n o hl;exact hh.apart n o0 h b hb (hFb.resolve_right id)
    sep:=fun n m on om hn hm hne=>by
     obtain⟨o1,h1⟩:=hold n on hn;obtain⟨o2,h2⟩:=hold m om hm;exact hh.sep n m o1 o2 h1 h2 hne
    pin:=fun n v hv=>by cases hv}
theorem sortF_con (zs:List Int) (hz:0<zs.length) (hl:zs.length≤17592186044416) (rest:List (Nat×Ob)) (h9:∀m o,lkp rest m=some o→m≠900001):
  ConS Tryz.prog 56 ((900001,.row 3 1 (encIs zs))::rest) [.one (.own 900001)] (.tup []) ((900001,.row 3 1 (encIs (zs.mergeSort fun x y=>decide (x≤y))))::rest):=by
 refine rowF_con (by kernel_rfl) zs _ hz (List.length_mergeSort _) rest h9 fun g cap w hH hg hcap hmax=>?_;have h:=Any.slices_Sort_int sortL g 0 cap zs w hH hg (by omega);refine h.mono ?_;rintro e w' ⟨rfl,q,os,rfl⟩;refine⟨rfl,?_⟩;have:=rowOut_put w q g os (zs.mergeSort fun x y=>decide (x≤y)) 0 hg;simpa using this
end Go.Proofs.YtfjidddhehckoaaGreat

namespace Go.Proofs.YtfjidddhehckoaaGreat
open Go Go.Hl
abbrev ptR (a b c N M bt h w be cn fa tm:CD):TV:=.one (.c (.ptr [a,b,c,N,M,bt,h,w,be,cn,fa,tm]))
theorem lat_two (p:Po):∃a b,laT p=.agg [.c (.sl 1 a),.c (.sl 1 b)]:=⟨_,_,rfl⟩
theorem rjoinT_con (p:Po) (hp:polC p=0) {A B:List (List CD)} (hL:laT p=.agg [.c (.sl 1 A),.c (.sl 1 B)]) (f1 f2 f3 bt h w be cn fa tm:CD) (a b:Int) (ha:okI p.n a) (hb:okI p.n b) (d:Nat):
  Con Tryz.prog 127 true [ptR f1 f2 f3 (.sl 1 A) (.sl 1 B) bt h w be cn fa tm,li a,li b] (.v (li (p.J a b))) none d:=by
 have cj:=rjoin_con p hp a b ha hb;rw[hL]at cj;obtain⟨R,hR⟩:∃x,p.J a b=x:=⟨_,rfl⟩;rw[hR]at cj⊢;clear hL hR ha hb hp;refine con_of_HTA Tryz.func127 ?_;simp only[Tryz.f127];refine HT_sA ?_;refine HT_scA [⟨true,.v (li R),none⟩] ?_ ?_
 · first|exact cj _|exact trivial|simpa[*]using cj _
 exact HT_rA
theorem po_J_ok {p:Po} (hp:polC p=0) (a b:Int):okI p.n (p.J a b):=by
 obtain⟨hM,h1,h2⟩:=pol_new hp;exact J_ok (e:=⟨p.n,p.M,[],0⟩) h1 hM a b
theorem rlevT_con (p:Po) (hp:polC p=0) {A B:List (List CD)} (hL:laT p=.agg [.c (.sl 1 A),.c (.sl 1 B)]) (f1 f2 f3 h w be cn fa tm:CD) (vars:List Vr) (st:List Int) (hst:st.length=vars.length) (ho:okV p.n st) (t:Tm):formB vars false t=true→t.nodes≤1000000→∀d:Nat,
  Con Tryz.prog 128 true [ptR f1 f2 f3 (.sl 1 A) (.sl 1 B) (iC p.bot) h w be cn fa tm,aT t,lI st] (.v (li (rlT p.J p.bot st t))) none d:=by
 have cj:=fun a b ha hb=>rjoinT_con p hp hL f1 f2 f3 (iC p.bot) h w be cn fa tm a b ha hb;have hJok:=po_J_ok hp;have hbot:=bot_ok hp;obtain⟨hM,hn0,_⟩:=pol_new hp;have hro:=fun(t:Tm) (hf:formB vars false t=true)=>rlT_ok (e:=⟨p.n,p.M,[],0⟩) (vars:=vars) (inp:=false) hn0 hM hbot ho hst t hf;have hJe:(En.J ⟨p.n,p.M,[],0⟩)=p.J:=rfl;simp only[hJe]at hro;obtain⟨J,hJ⟩:∃x,p.J=x:=⟨_,rfl⟩;obtain⟨N,hN⟩:∃x,p.n=x:=⟨_,rfl⟩;obtain⟨bot,hB⟩:∃x,p.bot=x:=⟨_,rfl⟩;simp only[hJ,hN,hB]at cj hJok hbot hro ho⊢;clear hJ hN hB hJe hL hM hn0 hp
 induction t using Tm.ind with
 |h o n ks ih=>
 intro hf hn d;have hf0:=hf;simp only[formB,Bool.and_eq_true]at hf;have hfk:=formBs_mem hf.2;have hf:=hf.1;obtain⟨res,hres⟩:∃r,rlT J bot st (.mk o n ks)=r:=⟨_,rfl⟩;rw[hres];simp only[rlT]at hres;refine con_of_HTA Tryz.func128 ?_;simp only[Tryz.f128];simp only[aT,Tm.enc,List.map_cons,List.map_nil];refine HT_sA ?_;refine HT_sA ?_;refine(HT_cutU [0,2,4] (fun z=>[(7,.v (li z))]) (fun z=>[(4,.box [.c (iC o),.c (iC n),.c (.sl 3 (encTs ks))])]) (fun z=>okI N z∧rlTs J bot st ks z=res) ?_ ?_)
 ·
  refine HT_sA ?_;refine(HT_cs rfl (fun h4=>?_) fun h4=>?_)
  · (try simp only[BN]at h4);have ho24:o=24:=by simpa using h4
    obtain⟨hn0,v,hv,_⟩:=node_ref (by subst ho24;exact hf);have hlt:n.toNat<st.length:=by rw[hst];exact(List.getElem?_eq_some_iff.1 hv).1
    obtain⟨x,hx⟩:∃x,st[n.toNat]? =some x:=⟨st[n.toNat],by simp[hlt]⟩;rw[if_pos ho24,hx]at hres;simp only[Option.getD_some]at hres;have hxo:=ho x (List.mem_of_getElem? hx);clear hlt hv;refine HT_runA ?_;exact⟨x,⟨hxo,hres⟩,le_mkA (fun n=>n) []⟩
  (try simp only[BN]at h4);have ho24:¬o=24:=by simpa using h4
  rw[if_neg ho24]at hres;exact⟨bot,⟨hbot,hres⟩,le_mkA (fun n=>n) []⟩
 rintro lv1 hJ1;simp only[upS,keepS,insS]
 try simp only[keepS,KN,Nat.reduceBEq,if_true,if_false,ins,Nat.reduceLT]
 clear hres hf;refine HT_seq<|HT_seq<|HT_runA ?_;refine HT_block<|(HT_loopU [0,2,23,24] (fun(x:Nat×Int)=>[(7,.v (li x.2)),(25,.v (li x.1))]) (fun x=>[]) (fun x=>x.1≤ks.length∧okI N x.2∧rlTs J bot st (ks.drop x.1) x.2=res) (fun x=>ks.length - x.1) (0,lv1) ⟨Nat.zero_le _,hJ1⟩ ?_ ?_)
 · exact le_mkA (fun n=>n) []
 rintro⟨k,l1⟩ ⟨hk,hlo,hJ⟩;simp only[upS,keepS,insS]
 try simp only[keepS,KN,Nat.reduceBEq,if_true,if_false,ins,Nat.reduceLT]
 simp only at hk hlo hJ;clear hJ1;refine HT_sA ?_;refine HT_seq<|(HT_cond rfl (fun h11=>HT_skip ?_) (fun h11=>?_))
 · (try simp only[BN]at h11);have hlt:k<ks.length:=by omega
   obtain⟨⟨ko,kn,kk⟩,he,hd⟩:=at_lt hlt;have hmem:=List.mem_of_getElem? he;have hw1:=wrap1 hlt (by have:=len_nodesT ks;simp only[Tm.nodes]at hn;omega);have hk1:k+1≤ks.length:=hlt;rw[hd]at hJ;simp only[rlTs]at hJ;have he':=get_encT he;have ci:=ih _ hmem (hfk _ hmem) (by have:=nodes_mem hmem;simp only[Tm.nodes]at hn this⊢;omega);have hRo:=hro _ (hfk _ hmem);obtain⟨R,hR⟩:∃y,rlT J bot st (.mk ko kn kk)=y:=⟨_,rfl⟩;rw[hR]at hJ ci hRo;have cj:=cj l1 R hlo hRo;have hQo:=hJok l1 R;obtain⟨Q,hQ⟩:∃y,J l1 R=y:=⟨_,rfl⟩;rw[hQ]at hJ cj hQo;simp only[aT,Tm.enc,List.map_cons,List.map_nil]at ci he';clear hlt h11 ih hmem hR hd hQ hro hfk;refine HT_seq<|HT_block<|HT_seq<|HT_runA ?_;refine(HT_runcA [⟨true,.v (li R),none⟩,⟨true,.v (li Q),none⟩] ?_ ?_)
   · first|exact⟨ci _,cj _⟩|exact trivial|(repeat' first|exact trivial|exact ci _|exact cj _|apply And.intro)
   refine HT_runA ?_;exact⟨(k+1,Q),⟨hk1,hQo,hJ⟩,by simp only;omega,le_mkA (fun n=>n) []⟩
 (try simp only[BN]at h11);have hkl:k=ks.length:=by omega
 rw[hkl,List.drop_length]at hJ;simp only[rlTs]at hJ;subst hJ;refine(HT_exit ?_);refine HT_sA ?_;exact HT_rA
end Go.Proofs.YtfjidddhehckoaaGreat
