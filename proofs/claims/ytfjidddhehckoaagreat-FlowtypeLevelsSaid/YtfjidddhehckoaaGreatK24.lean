/- Part 24: contracts of functions of the program and of the reference, and plain facts about what they compute; used by the proof of the claimed statement. Conditions: as each theorem states. -/
import Derived.Test.YtfjidddhehckoaaGreatK18
import Derived.Test.YtfjidddhehckoaaGreatK11
import Derived.Test.YtfjidddhehckoaaGreatRows
set_option linter.unusedSimpArgs false
set_option linter.unusedVariables false
set_option linter.unnecessarySimpa false
set_option maxRecDepth 100000
set_option maxHeartbeats 2000000
namespace Go.Proofs.YtfjidddhehckoaaGreat
open Go Go.Hl
abbrev lLL (l:List (List Int)):TV:=.one (.c (.sl 1 (encLL l)))
def lvR (f:Fl) (p:Po):RV:=if askC f p=0 then .tup [lLL (tyE f p).2.states,li 0] else .tup [lLL [],li (askC f p)]
def cnR (f:Fl) (p:Po):RV:=if askC f p=0 then .tup [lI (tyE f p).2.counts,li 0] else .tup [lI [],li (askC f p)]
theorem levels_con {f:Fl} {p:Po} (h:Sm f p) (d:Nat):Con Tryz.prog 24 false [aF f,aPo p] (lvR f p) none d:=by
 have crun:=runT_con f p (smQ_smP h.sp) h.rep h.sf.hv h.sf.hh h.sf.hn h.sf.hb;unfold lvR;unfold runRt runOt at crun;obtain⟨A,hA⟩:∃x,askC f p=x:=⟨_,rfl⟩;obtain⟨⟨X,T⟩,hT⟩:∃x,tyE f p=x:=⟨_,rfl⟩;obtain⟨cs,hL⟩:=lat_ptr p;obtain⟨HV,hH⟩:∃x,(phtF f p).1=x:=⟨_,rfl⟩;rw[hA]at crun;simp only[hT,hL,hH,hA]at crun⊢;obtain⟨z1,z2,z3,z4,z5,z6⟩:=T;simp only;clear hA hT hL hH h;refine con_of_HTA Tryz.func24 ?_;simp only[Tryz.f24];simp only[tO8,tB]at crun;simp only[aF,Fl.enc,aPo,Po.enc,List.map_cons,List.map_nil]at crun⊢;refine HT_sA ?_;rcases Classical.em (A=0)with hA|hA
 · subst hA;rw[if_pos rfl,if_pos rfl]at crun;rw[if_pos rfl];refine HT_seq<|(HT_runsS ?_);refine RunsS.cutE 2 [] (by simp[*];rfl) trivial (le_refl _) ?_;refine RunsS.call (fun n=>n) (fun n=>n) (by simp;rfl) (handS_mk (by simp) (by simp) (by simp) (by simp) (by simp)) crun (by rfl) ?_;refine RunsS.doneE [] (by simp;rfl) trivial ?_;clear crun;refine HT_seq<|HT_seq<|HT_runA ?_;refine(HT_cs rfl (fun h3=>?_) fun h3=>?_)
   · exact absurd h3 (by simp)
   (try simp only[BN]at h3);refine HT_sA ?_;exact HT_ret ⟨.inr rfl,_,le_frz 900002 rfl,⟨⟨_,by simp;rfl,by simp[resR]⟩,by simp,fun h=>by cases h⟩⟩
 rw[if_neg hA,if_neg hA]at crun;rw[if_neg hA];refine HT_seq<|(HT_runsS ?_);refine RunsS.cutE 2 [] (by simp[*];rfl) trivial (le_refl _) ?_;refine RunsS.call (fun n=>n) (fun n=>n) (by simp;rfl) (handS_mk (by simp) (by simp) (by simp) (by simp) (by simp)) crun (by rfl) ?_;refine RunsS.doneE [] (by simp;rfl) trivial ?_;clear crun;refine HT_seq<|HT_seq<|HT_runA ?_;refine(HT_cs rfl (fun h3=>?_) fun h3=>?_)
 · (try simp only[BN]at h3);refine HT_sA ?_;exact HT_ret ⟨.inr rfl,_,le_one 4 1 rfl,⟨⟨_,by simp;rfl,by simp[resR,encLL]⟩,by simp,fun h=>by cases h⟩⟩
 exact absurd h3 (by simpa using hA)
theorem counters_con {f:Fl} {p:Po} (h:Sm f p) (d:Nat):Con Tryz.prog 25 false [aF f,aPo p] (cnR f p) none d:=by
 have crun:=runT_con f p (smQ_smP h.sp) h.rep h.sf.hv h.sf.hh h.sf.hn h.sf.hb;unfold cnR;unfold runRt runOt at crun;obtain⟨A,hA⟩:∃x,askC f p=x:=⟨_,rfl⟩;obtain⟨⟨X,T⟩,hT⟩:∃x,tyE f p=x:=⟨_,rfl⟩;obtain⟨cs,hL⟩:=lat_ptr p;obtain⟨HV,hH⟩:∃x,(phtF f p).1=x:=⟨_,rfl⟩;rw[hA]at crun;simp only[hT,hL,hH,hA]at crun⊢;obtain⟨z1,z2,z3,z4,z5,z6⟩:=T;simp only;clear hA hT hL hH h;refine con_of_HTA Tryz.func25 ?_;simp only[Tryz.f25];simp only[tO8,tB]at crun;simp only[aF,Fl.enc,aPo,Po.enc,List.map_cons,List.map_nil]at crun⊢;refine HT_sA ?_;rcases Classical.em (A=0)with hA|hA
 · subst hA;rw[if_pos rfl,if_pos rfl]at crun;rw[if_pos rfl];refine HT_seq<|(HT_runsS ?_);refine RunsS.cutE 2 [] (by simp[*];rfl) trivial (le_refl _) ?_;refine RunsS.call (fun n=>n) (fun n=>n) (by simp;rfl) (handS_mk (by simp) (by simp) (by simp) (by simp) (by simp)) crun (by rfl) ?_;refine RunsS.doneE [] (by simp;rfl) trivial ?_;clear crun;refine HT_seq<|HT_seq<|HT_runA ?_;refine(HT_cs rfl (fun h3=>?_) fun h3=>?_)
   · exact absurd h3 (by simp)
   (try simp only[BN]at h3);refine HT_sA ?_;exact HT_ret ⟨.inr rfl,_,le_frz 900003 rfl,⟨⟨_,by simp;rfl,by simp[resR]⟩,by simp,fun h=>by cases h⟩⟩
 rw[if_neg hA,if_neg hA]at crun;rw[if_neg hA];refine HT_seq<|(HT_runsS ?_);refine RunsS.cutE 2 [] (by simp[*];rfl) trivial (le_refl _) ?_;refine RunsS.call (fun n=>n) (fun n=>n) (by simp;rfl) (handS_mk (by simp) (by simp) (by simp) (by simp) (by simp)) crun (by rfl) ?_;refine RunsS.doneE [] (by simp;rfl) trivial ?_;clear crun;refine HT_seq<|HT_seq<|HT_runA ?_;refine(HT_cs rfl (fun h3=>?_) fun h3=>?_)
 · (try simp only[BN]at h3);refine HT_sA ?_;exact HT_ret ⟨.inr rfl,_,le_one 4 1 rfl,⟨⟨_,by simp;rfl,by simp[resR,encLL]⟩,by simp,fun h=>by cases h⟩⟩
 exact absurd h3 (by simpa using hA)
end Go.Proofs.YtfjidddhehckoaaGreat

namespace Go.Proofs.YtfjidddhehckoaaGreat
open Go Go.Hl Go.RowKit Go.ChangeShapes Go.Proofs.YtfjidddhehckoaaGreat
theorem tiled:Tiled Tryz.prog:=tiled_mk (by kernel_rfl)
theorem own:ownKnob Tryz.prog.godebug=none:=by kernel_rfl
theorem laidOut:laidOutB Tryz.prog=true:=by kernel_rfl
section
variable {P:Program} {k:Nat} {t:TypeId} {ds:List CD}
theorem shape_slK {α:Type} {enc:α→List CD} {e:TypeId} {c:Nat} (hu:P.underlying t=some (.slice e)) (hc:P.cellsOf e=c) (he:∀k',k'<k→∀r,Shape P k' e r→∃x,r=enc x) (h:Shape P k t ds):∃xs:List α,ds=[.sl c (xs.map enc)]:=by
 cases k with
 |zero=>exact h.elim
 | succ k=>
   unfold Shape at h;rw[hu]at h;obtain⟨rows,h1,_,h3⟩:=h;obtain⟨xs,hxs⟩:=rows_enc (enc:=enc) fun r hr=>he k (Nat.lt_succ_self k) r (h3 r hr).2;subst hxs;exact⟨xs,by rw[h1,hc]⟩
theorem shape_structK {fs:Array Field} {l:List (Nat×Nat×TypeId)} {c:Nat} (hu:P.underlying t=some (.struct fs)) (hl:segsF P fs=l) (hc:P.cellsOf t=c) (h:Shape P k t ds):ds.length=c∧∃k',k'<k∧∀x∈l,Shape P k' x.2.2 ((ds.drop x.1).take x.2.1):=by
 cases k with
 |zero=>exact h.elim
 | succ k=>
   unfold Shape at h;rw[hu]at h;have h':ds.length=P.cellsOf t∧∀x∈segsF P fs,Shape P k x.2.2 ((ds.drop x.1).take x.2.1):=h;exact⟨hc▸h'.1,k,Nat.lt_succ_self k,fun x hx=>h'.2 x (hl▸hx)⟩
end
theorem dec_i {k:Nat} {t:TypeId} {ds:List CD} (hu:Tryz.prog.underlying t=some (.int .i64)) (h:Shape Tryz.prog k t ds):∃n:Int,ds=[iC n]:=by
 obtain⟨n,h1,_⟩:=shape_int hu h;exact⟨n,h1⟩
theorem dec_s {k:Nat} {ds:List CD} (h:Shape Tryz.prog k 9 ds):∃s:ByteArray,ds=[sC s]:=by
 obtain⟨s,h1,_⟩:=shape_str Tryz.underlying9 h;exact⟨s,h1⟩
theorem dec_I {k:Nat} {ds:List CD} (h:Shape Tryz.prog k 32 ds):∃l:List Int,ds=[.sl 1 (encIs l)]:=
 shape_slK (enc:=fun x=>[iC x]) Tryz.underlying32 (by kernel_rfl:Tryz.prog.cellsOf 3=1) (fun _ _ _ hr=>dec_i Tryz.underlying3 hr) h
theorem dec_T:∀(k:Nat) (ds:List CD),Shape Tryz.prog k 63 ds→∃t:Tm,ds=t.enc:=by
 intro k
 induction k using Nat.strongRecOn with
 | ind k ih=>
   intro ds h;obtain⟨hl,k1,hk1,hx⟩:=shape_structK (l:=[(0,1,60),(1,1,3),(2,1,61)]) Tryz.underlying63 (by kernel_rfl) (by kernel_rfl:Tryz.prog.cellsOf 63=3) h
   match ds,hl with
   | [a,b,c],_=>
     obtain⟨n1,h1⟩:=dec_i Tryz.underlying60 (hx (0,1,60) (by simp));obtain⟨n2,h2⟩:=dec_i Tryz.underlying3 (hx (1,1,3) (by simp));obtain⟨ks,h3⟩:=shape_slK (enc:=Tm.enc) Tryz.underlying61 (by kernel_rfl:Tryz.prog.cellsOf 63=3) (fun k' hk' r hr=>ih k' (by omega) r hr) (hx (2,1,61) (by simp));simp only[List.drop,List.take,List.cons.injEq,and_true]at h1 h2 h3;subst h1 h2 h3;exact⟨.mk n1 n2 ks,by simp only[Tm.enc,encTs_map]⟩
theorem dec_S:∀(k:Nat) (ds:List CD),Shape Tryz.prog k 65 ds→∃s:St,ds=s.enc:=by
 intro k
 induction k using Nat.strongRecOn with
 | ind k ih=>
   intro ds h;obtain⟨hl,k1,hk1,hx⟩:=shape_structK (l:=[(0,1,59),(1,1,3),(2,1,3),(3,1,3),(4,3,63),(7,1,24),(8,1,24),(9,1,32)]) Tryz.underlying65 (by kernel_rfl) (by kernel_rfl:Tryz.prog.cellsOf 65=10) h
   match ds,hl with
   | [a0,a1,a2,a3,a4,a5,a6,a7,a8,a9],_=>
     obtain⟨n0,h0⟩:=dec_i Tryz.underlying59 (hx (0,1,59) (by simp));obtain⟨n1,h1⟩:=dec_i Tryz.underlying3 (hx (1,1,3) (by simp));obtain⟨n2,h2⟩:=dec_i Tryz.underlying3 (hx (2,1,3) (by simp));obtain⟨n3,h3⟩:=dec_i Tryz.underlying3 (hx (3,1,3) (by simp));obtain⟨t,h4⟩:=dec_T _ _ (hx (4,3,63) (by simp));obtain⟨la,h7⟩:=shape_slK (enc:=St.enc) Tryz.underlying24 (by kernel_rfl:Tryz.prog.cellsOf 65=10) (fun k' hk' r hr=>ih k' (by omega) r hr) (hx (7,1,24) (by simp));obtain⟨lb',h8⟩:=shape_slK (enc:=St.enc) Tryz.underlying24 (by kernel_rfl:Tryz.prog.cellsOf 65=10) (fun k' hk' r hr=>ih k' (by omega) r hr) (hx (8,1,24) (by simp));obtain⟨lc,h9⟩:=dec_I (hx (9,1,32) (by simp));simp only[List.drop,List.take,List.cons.injEq,and_true]at h0 h1 h2 h3 h4 h7 h8 h9;subst h0 h1 h2 h3 h7 h8 h9;refine⟨.mk n0 n1 n2 n3 t la lb' lc,?_⟩;simp only[St.enc,encSs_map,←h4,List.cons_append,List.nil_append]
theorem dec_V {k:Nat} {ds:List CD} (h:Shape Tryz.prog k 88 ds):∃v:Vr,ds=v.enc:=by
 obtain⟨hl,k1,_,hx⟩:=shape_structK (l:=[(0,1,9),(1,1,86),(2,1,3),(3,1,3),(4,1,3)]) Tryz.underlying88 (by kernel_rfl) (by kernel_rfl:Tryz.prog.cellsOf 88=5) h
 match ds,hl with
 | [a0,a1,a2,a3,a4],_=>
   obtain⟨n0,h0⟩:=dec_s (hx (0,1,9) (by simp));obtain⟨n1,h1⟩:=dec_i Tryz.underlying86 (hx (1,1,86) (by simp));obtain⟨n2,h2⟩:=dec_i Tryz.underlying3 (hx (2,1,3) (by simp));obtain⟨n3,h3⟩:=dec_i Tryz.underlying3 (hx (3,1,3) (by simp));obtain⟨n4,h4⟩:=dec_i Tryz.underlying3 (hx (4,1,3) (by simp));simp only[List.drop,List.take,List.cons.injEq,and_true]at h0 h1 h2 h3 h4;subst h0 h1 h2 h3 h4;exact⟨⟨n0,n1,n2,n3,n4⟩,rfl⟩
theorem dec_H {k:Nat} {ds:List CD} (h:Shape Tryz.prog k 111 ds):∃v:Ht,ds=v.enc:=by
 obtain⟨hl,k1,_,hx⟩:=shape_structK (l:=[(0,1,9),(1,1,3),(2,1,3),(3,3,63)]) Tryz.underlying111 (by kernel_rfl) (by kernel_rfl:Tryz.prog.cellsOf 111=6) h
 match ds,hl with
 | [a0,a1,a2,a3,a4,a5],_=>
   obtain⟨n0,h0⟩:=dec_s (hx (0,1,9) (by simp));obtain⟨n1,h1⟩:=dec_i Tryz.underlying3 (hx (1,1,3) (by simp));obtain⟨n2,h2⟩:=dec_i Tryz.underlying3 (hx (2,1,3) (by simp));obtain⟨t,h3⟩:=dec_T _ _ (hx (3,3,63) (by simp));simp only[List.drop,List.take,List.cons.injEq,and_true]at h0 h1 h2 h3;subst h0 h1 h2;exact⟨⟨n0,n1,n2,t⟩,by simp only[Ht.enc,←h3,List.cons_append,List.nil_append]⟩
theorem dec_F {k:Nat} {ds:List CD} (h:Shape Tryz.prog k 26 ds):∃f:Fl,ds=f.enc:=by
 obtain⟨hl,k1,_,hx⟩:=shape_structK (l:=[(0,1,22),(1,1,23),(2,1,24)]) Tryz.underlying26 (by kernel_rfl) (by kernel_rfl:Tryz.prog.cellsOf 26=3) h
 match ds,hl with
 | [a0,a1,a2],_=>
   obtain⟨lv,h0⟩:=shape_slK (enc:=Vr.enc) Tryz.underlying22 (by kernel_rfl:Tryz.prog.cellsOf 88=5) (fun _ _ _ hr=>dec_V hr) (hx (0,1,22) (by simp));obtain⟨lh,h1⟩:=shape_slK (enc:=Ht.enc) Tryz.underlying23 (by kernel_rfl:Tryz.prog.cellsOf 111=6) (fun _ _ _ hr=>dec_H hr) (hx (1,1,23) (by simp));obtain⟨ls,h2⟩:=shape_slK (enc:=St.enc) Tryz.underlying24 (by kernel_rfl:Tryz.prog.cellsOf 65=10) (fun k' _ r hr=>dec_S k' r hr) (hx (2,1,24) (by simp));simp only[List.drop,List.take,List.cons.injEq,and_true]at h0 h1 h2;subst h0 h1 h2;exact⟨⟨lv,lh,ls⟩,by simp only[Fl.enc,encVs,encHs,encSs_map]⟩
theorem aggF:aggT Tryz.prog 26=true:=by unfold aggT;rw[Tryz.underlying26]
theorem dec_b {k:Nat} {ds:List CD} (h:Shape Tryz.prog k 4 ds):∃b:Bool,ds=[bC b]:=by
 obtain⟨b,h1⟩:=shape_bool Tryz.underlying4 h;exact⟨b,h1⟩
theorem dec_A {k:Nat} {ds:List CD} (h:Shape Tryz.prog k 89 ds):∃p:Int×Int,ds=[iC p.1,iC p.2]:=by
 obtain⟨hl,k,hx⟩:=shape_array (l:=[(0,1,3),(1,1,3)]) Tryz.underlying89 (by kernel_rfl) (by kernel_rfl:Tryz.prog.cellsOf 89=2) h
 match ds,hl with
 | [a0,a1],_=>
   obtain⟨n0,h0⟩:=dec_i Tryz.underlying3 (hx (0,1,3) (by simp));obtain⟨n1,h1⟩:=dec_i Tryz.underlying3 (hx (1,1,3) (by simp));simp only[List.drop,List.take,List.cons.injEq,and_true]at h0 h1;subst h0 h1;exact⟨(n0,n1),rfl⟩
theorem dec_L {k:Nat} {ds:List CD} (h:Shape Tryz.prog k 124 ds):∃x:Lb,ds=x.enc:=by
 obtain⟨hl,k1,_,hx⟩:=shape_structK (l:=[(0,1,9),(1,1,3)]) Tryz.underlying124 (by kernel_rfl) (by kernel_rfl:Tryz.prog.cellsOf 124=2) h
 match ds,hl with
 | [a0,a1],_=>
   obtain⟨n0,h0⟩:=dec_s (hx (0,1,9) (by simp));obtain⟨n1,h1⟩:=dec_i Tryz.underlying3 (hx (1,1,3) (by simp));simp only[List.drop,List.take,List.cons.injEq,and_true]at h0 h1;subst h0 h1;exact⟨⟨n0,n1⟩,rfl⟩
theorem dec_P {k:Nat} {ds:List CD} (h:Shape Tryz.prog k 31 ds):∃p:Po,ds=p.enc:=by
 obtain⟨hl,k1,_,hx⟩:=shape_structK (l:=[(0,1,27),(1,1,28),(2,1,29),(3,1,29),(4,1,3),(5,1,4)]) Tryz.underlying31 (by kernel_rfl) (by kernel_rfl:Tryz.prog.cellsOf 31=6) h
 match ds,hl with
 | [a0,a1,a2,a3,a4,a5],_=>
   obtain⟨l0,h0⟩:=shape_slK (enc:=fun s=>[sC s]) Tryz.underlying27 (by kernel_rfl:Tryz.prog.cellsOf 9=1) (fun _ _ _ hr=>dec_s hr) (hx (0,1,27) (by simp));obtain⟨l1,h1⟩:=shape_slK (enc:=fun p:Int×Int=>[iC p.1,iC p.2]) Tryz.underlying28 (by kernel_rfl:Tryz.prog.cellsOf 89=2) (fun _ _ _ hr=>dec_A hr) (hx (1,1,28) (by simp));obtain⟨l2,h2⟩:=shape_slK (enc:=Lb.enc) Tryz.underlying29 (by kernel_rfl:Tryz.prog.cellsOf 124=2) (fun _ _ _ hr=>dec_L hr) (hx (2,1,29) (by simp));obtain⟨l3,h3⟩:=shape_slK (enc:=Lb.enc) Tryz.underlying29 (by kernel_rfl:Tryz.prog.cellsOf 124=2) (fun _ _ _ hr=>dec_L hr) (hx (3,1,29) (by simp));obtain⟨n4,h4⟩:=dec_i Tryz.underlying3 (hx (4,1,3) (by simp));obtain⟨b5,h5⟩:=dec_b (hx (5,1,4) (by simp));simp only[List.drop,List.take,List.cons.injEq,and_true]at h0 h1 h2 h3 h4 h5;subst h0 h1 h2 h3 h4 h5;exact⟨⟨l0,l1,l2,l3,n4,b5⟩,rfl⟩
theorem aggP:aggT Tryz.prog 31=true:=by unfold aggT;rw[Tryz.underlying31]
end Go.Proofs.YtfjidddhehckoaaGreat
