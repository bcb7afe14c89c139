/- Part 19: contracts of functions of the program and of the reference, and plain facts about what they compute; used by the proof of the claimed statement. Conditions: as each theorem states. -/
import Derived.Test.YtfjidddhehckoaaGreatK18
import Derived.Lib.SlicesCompact
set_option linter.unusedSimpArgs false
set_option linter.unusedVariables false
set_option linter.unnecessarySimpa false
set_option maxRecDepth 100000
set_option maxHeartbeats 2000000
namespace Go.Proofs.YtfjidddhehckoaaGreat
open Go Go.Hl
section
variable {e:En}
theorem eq_of_iff (hM:Lt.Lat e.n e.M) {a b:Int} (ha:okI e.n a) (hb:okI e.n b) (h:∀w,okI e.n w→(e.L a w↔e.L b w)):a=b:=
 L_anti hM ha hb ((h b hb).2 (L_refl hM hb)) ((h a ha).1 (L_refl hM ha))
theorem J_assoc (hn:0<e.n) (hM:Lt.Lat e.n e.M) {a b c:Int} (ha:okI e.n a) (hb:okI e.n b) (hc:okI e.n c):e.J a (e.J b c)=e.J (e.J a b) c:=by
 have hJ:=J_ok hn hM;refine eq_of_iff hM (hJ _ _) (hJ _ _) fun w hw=>?_;rw[J_iff hn hM ha (hJ _ _) hw,J_iff hn hM hb hc hw,J_iff hn hM (hJ _ _) hc hw,J_iff hn hM ha hb hw,and_assoc]
theorem J_bot (hn:0<e.n) (hM:Lt.Lat e.n e.M) {a bot:Int} (ha:okI e.n a) (hb:okI e.n bot) (h0:∀w,okI e.n w→e.L bot w):e.J a bot=a:=by
 refine eq_of_iff hM (J_ok hn hM _ _) ha fun w hw=>?_;rw[J_iff hn hM ha hb hw];exact⟨fun h=>h.1,fun h=>⟨h,h0 w hw⟩⟩
end
mutual
def rlT (J:Int→Int→Int) (bot:Int) (st:List Int):Tm→Int
 | .mk o n ks=>rlTs J bot st ks (if o=24 then(st[n.toNat]?).getD 0 else bot)
def rlTs (J:Int→Int→Int) (bot:Int) (st:List Int):List Tm→Int→Int
 |[],lv=>lv
 |k::l,lv=>rlTs J bot st l (J lv (rlT J bot st k))
end
section
variable {e:En} {vars:List Vr} {inp:Bool} {st:List Int} {bot:Int}
theorem ref_ok (hl:st.length=vars.length) (ho:okV e.n st) {o n:Int} (h24:o=24) (h:formB vars inp (.mk o n [])=true∨∃ks,formB vars inp (.mk o n ks)=true):okI e.n ((st[n.toNat]?).getD 0):=by
 have:∃ks,formB vars inp (.mk o n ks)=true:=h.elim (fun h=>⟨[],h⟩) id;obtain⟨ks,hf⟩:=this;simp only[formB,nodeB,Bool.and_eq_true]at hf;have hr:=hf.1.2;rw[if_neg (by omega),if_pos h24]at hr;obtain⟨r1,r2⟩:=ref_in hr;rw[List.getElem?_eq_getElem (by omega),Option.getD_some];exact ho _ (List.getElem_mem _)
mutual
theorem rlT_ok (hn:0<e.n) (hM:Lt.Lat e.n e.M) (hb:okI e.n bot) (ho:okV e.n st) (hl:st.length=vars.length):∀t:Tm,formB vars inp t=true→okI e.n (rlT e.J bot st t)
 | .mk o n ks,hf=>by
   have h2:=hf;simp only[formB,nodeB,Bool.and_eq_true]at h2;simp only[rlT];refine rlTs_ok hn hM hb ho hl ks _ h2.2 ?_;split
   · exact ref_ok hl ho (by assumption) (.inr ⟨ks,hf⟩)
   exact hb
theorem rlTs_ok (hn:0<e.n) (hM:Lt.Lat e.n e.M) (hb:okI e.n bot) (ho:okV e.n st) (hl:st.length=vars.length):∀(l:List Tm) (lv:Int),formBs vars inp l=true→okI e.n lv→okI e.n (rlTs e.J bot st l lv)
 |[],lv,_,h=>h
 | k::l,lv,hf,h=>by
   simp only[formBs,Bool.and_eq_true]at hf;simp only[rlTs];exact rlTs_ok hn hM hb ho hl l _ hf.2 (J_ok hn hM _ _)
end
mutual
theorem rl_eq (hn:0<e.n) (hM:Lt.Lat e.n e.M) (hb:okI e.n bot) (h0:∀w,okI e.n w→e.L bot w) (ho:okV e.n st) (hl:st.length=vars.length):∀(t:Tm) (lv:Int),formB vars inp t=true→okI e.n lv→e.J lv (rlT e.J bot st t)=tlT e.J st t lv
 | .mk o n ks,lv,hf,hlv=>by
   have h2:=hf;simp only[formB,nodeB,Bool.and_eq_true]at h2;simp only[rlT,tlT];by_cases h24:o=24
   · rw[if_pos h24,if_pos h24];exact rls_eq hn hM hb h0 ho hl ks lv _ h2.2 hlv (ref_ok hl ho h24 (.inr ⟨ks,hf⟩))
   rw[if_neg h24,if_neg h24,rls_eq hn hM hb h0 ho hl ks lv _ h2.2 hlv hb,J_bot hn hM hlv hb h0]
theorem rls_eq (hn:0<e.n) (hM:Lt.Lat e.n e.M) (hb:okI e.n bot) (h0:∀w,okI e.n w→e.L bot w) (ho:okV e.n st) (hl:st.length=vars.length):∀(l:List Tm) (lv m:Int),formBs vars inp l=true→okI e.n lv→okI e.n m→e.J lv (rlTs e.J bot st l m)=tlTs e.J st l (e.J lv m)
 |[],lv,m,_,_,_=>by simp only[rlTs,tlTs]
 | k::l,lv,m,hf,hlv,hm=>by
   simp only[formBs,Bool.and_eq_true]at hf;simp only[rlTs,tlTs];rw[rls_eq hn hM hb h0 ho hl l lv _ hf.2 hlv (J_ok hn hM _ _),←rl_eq hn hM hb h0 ho hl k (e.J lv m) hf.1 (J_ok hn hM _ _),J_assoc hn hM hlv hm (rlT_ok hn hM hb ho hl k hf.1)]
end
end
mutual
def rtS (e:En) (fu:Nat):St→Int→List Int→List Int
 | .mk d _ _ _ tm a b _,pc,st=>
   if d=4 then fxT e.J (fun s=>tlT e.J s tm pc) (ouL e fu a) (rtL e fu a) fu st++(if tm.op≠0∨evenB a=false then [tlT e.J (fxF e.J (fun s=>tlT e.J s tm pc) (ouL e fu a) fu st) tm pc] else [])
   else if d=3 then rtL e fu a (tlT e.J st tm pc) st++(rtL e fu b (tlT e.J st tm pc) st++(if alikeB a b=true then [] else [tlT e.J st tm pc]))
   else []
def rtL (e:En) (fu:Nat):List St→Int→List Int→List Int
 |[],_,_=>[]
 |s::l,pc,st=>rtS e fu s pc st++rtL e fu l pc (ouS e fu s pc st)
end
mutual
def rfS (e:En) (fu:Nat):St→Nat→Int→List Int→List Int
 | .mk d c v n tm a b bs,k,pc,st=>
   if d=4 then fxT e.J (fun s=>tlT e.J s tm pc) (ouL e fu a) (rfL e fu a (k+1)) fu st
   else if d=3 then rfL e fu a (k+1) (tlT e.J st tm pc) st++rfL e fu b (k+1+szL a) (tlT e.J st tm pc) st
   else if fltB e (.mk d c v n tm a b bs,st,pc)=true then [(k:Int)] else []
def rfL (e:En) (fu:Nat):List St→Nat→Int→List Int→List Int
 |[],_,_,_=>[]
 |s::l,k,pc,st=>rfS e fu s k pc st++rfL e fu l (k+szS s) pc (ouS e fu s pc st)
end
section
variable {e:En}
section
variable {nl:List Int→Int} {g:Int→List Int→List Int} {m m':Int→List Int→List Int}
theorem fx_congr (hJ:∀a b,okI e.n (e.J a b)) (hnl:∀st,okV e.n st→okI e.n (nl st)) (hg:∀pc st,okI e.n pc→okV e.n st→(g pc st).length=st.length∧okV e.n (g pc st)) {N:Nat} (h:∀s,okV e.n s→s.length=N→∀x,x∈m (nl s) s↔x∈m' (nl s) s):
  ∀(k:Nat) (st:List Int),okV e.n st→st.length=N→∀x,x∈fxT e.J nl g m k st↔x∈fxT e.J nl g m' k st
 |0,st,ho,hl,x=>Iff.rfl
 | k+1,st,ho,hl,x=>by
   obtain⟨h1,h2⟩:=hg (nl st) st (hnl st ho) ho;simp only[fxT,List.mem_append,h st ho hl x];refine or_congr_right ?_;split
   · exact Iff.rfl
   exact fx_congr hJ hnl hg h k _ (mgF_ok hJ _ _) (by rw[mgF_len _ h1,hl]) x
theorem fx_last (hn:0<e.n) (hM:Lt.Lat e.n e.M) (hnl:∀st,okV e.n st→okI e.n (nl st)) (hg:∀pc st,okI e.n pc→okV e.n st→(g pc st).length=st.length∧okV e.n (g pc st)):
  ∀(k:Nat) (st:List Int),okV e.n st→muV e.n e.M st<k→∀x∈m (nl (fxF e.J nl g k st)) (fxF e.J nl g k st),x∈fxT e.J nl g m k st
 |0,st,ho,h,x,hx=>absurd h (Nat.not_lt_zero _)
 | k+1,st,ho,h,x,hx=>by
   obtain⟨h1,h2⟩:=hg (nl st) st (hnl st ho) ho;simp only[fxF]at hx;simp only[fxT,List.mem_append];by_cases hm:mgF e.J st (g (nl st) st)=st
   · rw[if_pos hm]at hx;exact .inl hx
   rw[if_neg hm]at hx⊢;have:=(mu_mg hM h1 ho h2).2 hm;exact .inr (fx_last hn hM hnl hg k _ (mgF_ok (J_ok hn hM) _ _) (by omega) x hx)
theorem fx_mem (hn:0<e.n) (hM:Lt.Lat e.n e.M) (hnl:∀st,okV e.n st→okI e.n (nl st)) (hg:∀pc st,okI e.n pc→okV e.n st→(g pc st).length=st.length∧okV e.n (g pc st)):
  ∀(k:Nat) (st:List Int),okV e.n st→∀x∈fxT e.J nl g m k st,∃s,okV e.n s∧s.length=st.length∧LV e s (fxF e.J nl g k st)∧x∈m (nl s) s
 |0,st,ho,x,hx=>by simp[fxT]at hx
 | k+1,st,ho,x,hx=>by
   obtain⟨h1,h2⟩:=hg (nl st) st (hnl st ho) ho;simp only[fxT,List.mem_append]at hx;have hle:=fx_le hn hM hnl hg (k+1) st ho;rcases hx with hx|hx
   · exact⟨st,ho,rfl,hle,hx⟩
   by_cases hm:mgF e.J st (g (nl st) st)=st
   · rw[if_pos hm]at hx;simp at hx
   rw[if_neg hm]at hx;obtain⟨s,a1,a2,a3,a4⟩:=fx_mem hn hM hnl hg k _ (mgF_ok (J_ok hn hM) _ _) x hx;refine⟨s,a1,by rw[a2,mgF_len _ h1],?_,a4⟩;simp only[fxF];rw[if_neg hm];exact a3
end
mutual
theorem rt_memS (hn:0<e.n) (hM:Lt.Lat e.n e.M) (fu:Nat):∀(s:St) (pc:Int) (st:List Int),okI e.n pc→okV e.n st→fuel e st.length fu→∀x,x∈rtS e fu s pc st↔x∈tmS e fu s pc st
 | .mk d c v n tm a b bs,pc,st,hp,ho,hf,x=>by
   have hJ:=J_ok hn hM;have hnl:∀s,okV e.n s→okI e.n (tlT e.J s tm pc):=fun s _=>tlT_ok hJ s tm pc hp;have hg:=fun p s h1 h2=>ouL_ok hJ fu a p s h1 h2;simp only[rtS,tmS];split
   · have hc:=fx_congr (m:=rtL e fu a) (m':=tmL e fu a) (N:=st.length) hJ (nl:=fun s=>tlT e.J s tm pc) hnl hg (fun s hs hl x=>rt_mem hn hM fu a _ s (hnl s hs) hs (by rw[hl];exact hf) x) fu st ho rfl x;have hl:=fx_last (m:=tmL e fu a) hn hM (nl:=fun s=>tlT e.J s tm pc) hnl hg fu st ho (by have:=muV_le e.n e.M st;unfold fuel at hf;omega) x;simp only[List.mem_append,hc];constructor
     · rintro(h|h)
       · exact .inl h
       exact .inr (.inr h)
     rintro(h|h|h)
     · exact .inl h
     · exact .inl (hl h)
     exact .inr h
   split
   · have h1:=rt_mem hn hM fu a (tlT e.J st tm pc) st (hnl st ho) ho hf x;have h2:=rt_mem hn hM fu b (tlT e.J st tm pc) st (hnl st ho) ho hf x;simp only[List.mem_append,h1,h2]
   exact Iff.rfl
theorem rt_mem (hn:0<e.n) (hM:Lt.Lat e.n e.M) (fu:Nat):∀(l:List St) (pc:Int) (st:List Int),okI e.n pc→okV e.n st→fuel e st.length fu→∀x,x∈rtL e fu l pc st↔x∈tmL e fu l pc st
 |[],pc,st,hp,ho,hf,x=>by simp[rtL,tmL]
 | s::l,pc,st,hp,ho,hf,x=>by
   obtain⟨h1,h2⟩:=ouS_ok (J_ok hn hM) fu s pc st hp ho;simp only[rtL,tmL,List.mem_append,rt_memS hn hM fu s pc st hp ho hf x,rt_mem hn hM fu l pc _ hp h2 (by rw[h1];exact hf) x]
end
theorem lgS_len {fu:Nat} {s:St} {pc:Int} {st:List Int} (h:frS s):(lgS e fu s pc st).length=szS s:=by
 have:=lgL_len (e:=e) (fu:=fu) (l:=[s]) (pc:=pc) (st:=st) (by simp[frL,h]);simpa[lgL,szL]using this
mutual
theorem rf_memS (hn:0<e.n) (hM:Lt.Lat e.n e.M) (hW:okI e.n e.W) (fu:Nat):∀(s:St) (k:Nat) (pc:Int) (st:List Int),frS s→okI e.n pc→okV e.n st→fuel e st.length fu→∀x,x∈rfS e fu s k pc st↔x∈fltF e k (lgS e fu s pc st)
 | .mk d c v n tm a b bs,k,pc,st,hr,hp,ho,hf,x=>by
   have hJ:=J_ok hn hM;have hnl:∀s,okV e.n s→okI e.n (tlT e.J s tm pc):=fun s _=>tlT_ok hJ s tm pc hp;have hg:=fun p s h1 h2=>ouL_ok hJ fu a p s h1 h2;have hno:∀y,d≠1→fltB e (.mk d c v n tm a b bs,y,pc)=false:=fun y h=>by simp[fltB,St.do_,h]
   simp only[frS]at hr;simp only[rfS,lgS];split
   · rename_i h4;obtain⟨x1,x2,x3,x4,x5⟩:=fx_out (tm:=tm) (a:=a) hn hM hp ho hf;have hl:=fx_last (m:=rfL e fu a (k+1)) hn hM (nl:=fun s=>tlT e.J s tm pc) hnl hg fu st ho (by have:=muV_le e.n e.M st;unfold fuel at hf;omega) x;have hm:=fx_mem (m:=rfL e fu a (k+1)) hn hM (nl:=fun s=>tlT e.J s tm pc) hnl hg fu st ho x;obtain⟨X,hX⟩:∃x,fxF e.J (fun s=>tlT e.J s tm pc) (ouL e fu a) fu st=x:=⟨_,rfl⟩;rw[hX]at x1 x2 x3 x4 x5 hl hm⊢;simp only[fltF,hno X (by omega),if_neg Bool.false_ne_true,List.nil_append];constructor
     · intro h;obtain⟨s,a1,a2,a3,a4⟩:=hm h;have hfs:fuel e s.length fu:=by rw[a2];exact hf
       have:=(rf_mem hn hM hW fu a (k+1) _ s hr.2.2.1 (hnl s a1) a1 hfs x).1 a4;exact flt_mono hn hM hW (lgL_mono hn hM fu a _ _ s X (hnl s a1) (hnl X x2) a1 x2 (by rw[x1];exact hf) (tlT_mono hn hM a1 x2 a3 tm pc pc hp hp (L_refl hM hp)) a3) (k+1) x this
     intro h;exact hl ((rf_mem hn hM hW fu a (k+1) _ X hr.2.2.1 (hnl X x2) x2 (by rw[x1];exact hf) x).2 h)
   split
   · rename_i h4 h3;have h1:=rf_mem hn hM hW fu a (k+1) (tlT e.J st tm pc) st hr.2.2.1 (hnl st ho) ho hf x;have h2:=rf_mem hn hM hW fu b (k+1+szL a) (tlT e.J st tm pc) st hr.2.2.2 (hnl st ho) ho hf x;simp only[fltF,hno st (by omega),if_neg Bool.false_ne_true,List.nil_append,fltF_app,lgL_len hr.2.2.1,List.mem_append,h1,h2]
   simp only[fltF,List.append_nil]
theorem rf_mem (hn:0<e.n) (hM:Lt.Lat e.n e.M) (hW:okI e.n e.W) (fu:Nat):∀(l:List St) (k:Nat) (pc:Int) (st:List Int),frL l→okI e.n pc→okV e.n st→fuel e st.length fu→∀x,x∈rfL e fu l k pc st↔x∈fltF e k (lgL e fu l pc st)
 |[],k,pc,st,hr,hp,ho,hf,x=>by simp[rfL,lgL,fltF]
 | s::l,k,pc,st,hr,hp,ho,hf,x=>by
   obtain⟨h1,h2⟩:=ouS_ok (J_ok hn hM) fu s pc st hp ho;simp only[frL]at hr;simp only[rfL,lgL,fltF_app,lgS_len hr.1,List.mem_append,rf_memS hn hM hW fu s k pc st hr.1 hp ho hf x,rf_mem hn hM hW fu l (k+szS s) pc _ hr.2 hp h2 (by rw[h1];exact hf) x]
end
end
end Go.Proofs.YtfjidddhehckoaaGreat

namespace Go.Proofs.YtfjidddhehckoaaGreat
open Go Go.Hl
section
variable {e:En}
def AG (e:En) (w:Int) (a b:List Int):Prop:=a.length=b.length∧∀(i:Nat) (x y:Int),a[i]? =some x→b[i]? =some y→(e.L x w↔e.L y w)
theorem get0_ok (hn:0<e.n) {a:List Int} (ha:okV e.n a) (i:Nat):okI e.n ((a[i]?).getD 0):=by
 cases h:a[i]? with
 |none=>exact⟨by simp,by simp;omega⟩
 |some x=>exact ha x (List.mem_of_getElem? h)
theorem AG.get {w:Int} {a b:List Int} (h:AG e w a b) (i:Nat):e.L ((a[i]?).getD 0) w↔e.L ((b[i]?).getD 0) w:=by
 cases ha:a[i]? with
 | none=>
   have hb:b[i]? =none:=by
    rw[List.getElem?_eq_none_iff]at ha⊢;have:=h.1;omega
   rw[hb]
 | some x=>
   have hi:=(List.getElem?_eq_some_iff.1 ha).1;have hb:b[i]? =some (b[i]'(by have:=h.1;omega)):=List.getElem?_eq_getElem _;rw[hb];exact h.2 i _ _ ha hb
mutual
theorem tlT_ag (hn:0<e.n) (hM:Lt.Lat e.n e.M) {w:Int} (hw:okI e.n w) {a b:List Int} (ha:okV e.n a) (hb:okV e.n b) (h:AG e w a b):∀(t:Tm) (lv lv':Int),okI e.n lv→okI e.n lv'→(e.L lv w↔e.L lv' w)→(e.L (tlT e.J a t lv) w↔e.L (tlT e.J b t lv') w)
 | .mk o n ks,lv,lv',hl,hl',hi=>by
   simp only[tlT];split
   · refine tlTs_ag hn hM hw ha hb h ks _ _ (J_ok hn hM _ _) (J_ok hn hM _ _) ?_;rw[J_iff hn hM hl (get0_ok hn ha _) hw,J_iff hn hM hl' (get0_ok hn hb _) hw,hi,h.get]
   exact tlTs_ag hn hM hw ha hb h ks _ _ hl hl' hi
theorem tlTs_ag (hn:0<e.n) (hM:Lt.Lat e.n e.M) {w:Int} (hw:okI e.n w) {a b:List Int} (ha:okV e.n a) (hb:okV e.n b) (h:AG e w a b):∀(l:List Tm) (lv lv':Int),okI e.n lv→okI e.n lv'→(e.L lv w↔e.L lv' w)→(e.L (tlTs e.J a l lv) w↔e.L (tlTs e.J b l lv') w)
 |[],lv,lv',hl,hl',hi=>hi
 | k::l,lv,lv',hl,hl',hi=>by
   simp only[tlTs];exact tlTs_ag hn hM hw ha hb h l _ _ (tlT_ok (J_ok hn hM) a k lv hl) (tlT_ok (J_ok hn hM) b k lv' hl') (tlT_ag hn hM hw ha hb h k lv lv' hl hl' hi)
end
theorem AG.set {w:Int} {a b:List Int} {k:Nat} {x y:Int} (h:AG e w a b) (hx:e.L x w↔e.L y w):AG e w (a.set k x) (b.set k y):=
 ⟨by simp[h.1],fun i u v hu hv=>by
  rw[List.getElem?_set]at hu hv;by_cases hk:k=i
  · subst hk;simp only[if_true]at hu hv;split at hu
    · split at hv
      · cases hu;cases hv;exact hx
      cases hv
    cases hu
  rw[if_neg hk]at hu hv
  exact h.2 i u v hu hv⟩
theorem AG.mg (hn:0<e.n) (hM:Lt.Lat e.n e.M) {w:Int} (hw:okI e.n w) {a b c d:List Int} (ha:okV e.n a) (hb:okV e.n b) (hc:okV e.n c) (hd:okV e.n d) (h:AG e w a c) (k:AG e w b d) (hl:b.length=a.length):AG e w (mgF e.J a b) (mgF e.J c d):=by
 have h1:=h.1;have k1:=k.1;refine⟨by rw[mgF_len _ hl,mgF_len _ (by omega)];exact h1,fun i x y hx hy=>?_⟩;obtain⟨u,v,a1,a2,rfl⟩:=mg_get2 hx;obtain⟨p,q,b1,b2,rfl⟩:=mg_get2 hy;rw[J_iff hn hM (ha u (List.mem_of_getElem? a1)) (hb v (List.mem_of_getElem? a2)) hw,J_iff hn hM (hc p (List.mem_of_getElem? b1)) (hd q (List.mem_of_getElem? b2)) hw,h.2 i u p a1 b1,k.2 i v q a2 b2]
def itR (J:Int→Int→Int) (nl:List Int→Int) (g:Int→List Int→List Int):Nat→List Int→List Int
 |0,st=>st
 |k+1,st=>itR J nl g k (mgF J st (g (nl st) st))
theorem itR_fix {J:Int→Int→Int} {nl:List Int→Int} {g:Int→List Int→List Int}:∀(k:Nat) (st:List Int),mgF J st (g (nl st) st)=st→itR J nl g k st=st
 |0,st,h=>rfl
 | k+1,st,h=>by
   simp only[itR];rw[h];exact itR_fix k st h
theorem fxF_it {J:Int→Int→Int} {nl:List Int→Int} {g:Int→List Int→List Int}:∀(k:Nat) (st:List Int),fxF J nl g k st=itR J nl g k st
 |0,st=>rfl
 | k+1,st=>by
   simp only[fxF];split
   · rename_i h;exact(itR_fix (k+1) st h).symm
   exact fxF_it k _
theorem itR_succ {J:Int→Int→Int} {nl:List Int→Int} {g:Int→List Int→List Int}:∀(k:Nat) (st:List Int),itR J nl g (k+1) st=mgF J (itR J nl g k st) (g (nl (itR J nl g k st)) (itR J nl g k st))
 |0,st=>rfl
 | k+1,st=>by
   have:=itR_succ (J:=J) (nl:=nl) (g:=g) k (mgF J st (g (nl st) st));simp only[itR]at this⊢;exact this
section
variable {nl nl':List Int→Int} {g:Int→List Int→List Int}
theorem itR_ok (hJ:∀a b,okI e.n (e.J a b)) (hnl:∀st,okV e.n st→okI e.n (nl st)) (hg:∀pc st,okI e.n pc→okV e.n st→(g pc st).length=st.length∧okV e.n (g pc st)):∀(k:Nat) (st:List Int),okV e.n st→(itR e.J nl g k st).length=st.length∧okV e.n (itR e.J nl g k st)
 |0,st,ho=>⟨rfl,ho⟩
 | k+1,st,ho=>by
   obtain⟨h1,h2⟩:=hg (nl st) st (hnl st ho) ho;have:=itR_ok hJ hnl hg k _ (mgF_ok hJ st (g (nl st) st));simp only[itR];exact⟨by rw[this.1,mgF_len _ h1],this.2⟩
theorem itR_ag (hn:0<e.n) (hM:Lt.Lat e.n e.M) {w:Int} (hw:okI e.n w) (hnl:∀st,okV e.n st→okI e.n (nl st)) (hnl':∀st,okV e.n st→okI e.n (nl' st)) (hg:∀pc st,okI e.n pc→okV e.n st→(g pc st).length=st.length∧okV e.n (g pc st))
  (hga:∀a b,okV e.n a→okV e.n b→AG e w a b→AG e w (g (nl a) a) (g (nl' b) b)):∀(k:Nat) (a b:List Int),okV e.n a→okV e.n b→AG e w a b→AG e w (itR e.J nl g k a) (itR e.J nl' g k b)
 |0,a,b,ha,hb,h=>h
 | k+1,a,b,ha,hb,h=>by
   obtain⟨a1,a2⟩:=hg (nl a) a (hnl a ha) ha;obtain⟨b1,b2⟩:=hg (nl' b) b (hnl' b hb) hb;simp only[itR];exact itR_ag hn hM hw hnl hnl' hg hga k _ _ (mgF_ok (J_ok hn hM) _ _) (mgF_ok (J_ok hn hM) _ _) (AG.mg hn hM hw ha a2 hb b2 h (hga a b ha hb h) a1)
end
mutual
theorem ouS_ag (hn:0<e.n) (hM:Lt.Lat e.n e.M) {w:Int} (hw:okI e.n w) (fu:Nat):∀(s:St) (pc pc':Int) (st st':List Int),okI e.n pc→okI e.n pc'→okV e.n st→okV e.n st'→(e.L pc w↔e.L pc' w)→AG e w st st'→AG e w (ouS e fu s pc st) (ouS e fu s pc' st')
 | .mk d c v n tm a b bs,pc,pc',st,st',hp,hp',ho,ho',hpp,hs=>by
   have hJ:=J_ok hn hM;have ht:=tlT_ag hn hM hw ho ho' hs tm pc pc' hp hp' hpp;simp only[ouS];split
   · rw[fxF_it,fxF_it]
     exact itR_ag hn hM hw (nl:=fun s=>tlT e.J s tm pc) (nl':=fun s=>tlT e.J s tm pc') (fun s _=>tlT_ok hJ s tm pc hp) (fun s _=>tlT_ok hJ s tm pc' hp') (fun p s h1 h2=>ouL_ok hJ fu a p s h1 h2)
      (fun x y hx hy h=>ouL_ag hn hM hw fu a _ _ x y (tlT_ok hJ x tm pc hp) (tlT_ok hJ y tm pc' hp') hx hy (tlT_ag hn hM hw hx hy h tm pc pc' hp hp' hpp) h) fu st st' ho ho' hs
   split
   · exact hs.set ht
   split
   · refine hs.set ?_;by_cases hh:okI e.n ((e.hv[n.toNat]?).getD 0)
     · rw[J_iff hn hM hp hh hw,J_iff hn hM hp' hh hw,hpp]
     have:∀x,e.J x ((e.hv[n.toNat]?).getD 0)=0:=by
      intro x;unfold En.J Lt.jmV;rw[if_neg];intro hc;apply hh;simp only[Lt.inB,Bool.and_eq_true,decide_eq_true_eq]at hc;exact⟨by omega,by omega⟩
     rw[this,this]
   split
   · have hl:=tlT_ok hJ st tm pc hp;have hl':=tlT_ok hJ st' tm pc' hp';have a1:=ouL_ok hJ fu a _ st hl ho;have a2:=ouL_ok hJ fu a _ st' hl' ho';have b1:=ouL_ok hJ fu b _ st hl ho;have b2:=ouL_ok hJ fu b _ st' hl' ho';exact AG.mg hn hM hw a1.2 b1.2 a2.2 b2.2 (ouL_ag hn hM hw fu a _ _ st st' hl hl' ho ho' ht hs) (ouL_ag hn hM hw fu b _ _ st st' hl hl' ho ho' ht hs) (by rw[b1.1,a1.1])
   exact hs
theorem ouL_ag (hn:0<e.n) (hM:Lt.Lat e.n e.M) {w:Int} (hw:okI e.n w) (fu:Nat):∀(l:List St) (pc pc':Int) (st st':List Int),okI e.n pc→okI e.n pc'→okV e.n st→okV e.n st'→(e.L pc w↔e.L pc' w)→AG e w st st'→AG e w (ouL e fu l pc st) (ouL e fu l pc' st')
 |[],pc,pc',st,st',hp,hp',ho,ho',hpp,hs=>by simpa only[ouL]using hs
 | s::l,pc,pc',st,st',hp,hp',ho,ho',hpp,hs=>by
   have hJ:=J_ok hn hM;simp only[ouL];exact ouL_ag hn hM hw fu l pc pc' _ _ hp hp' (ouS_ok hJ fu s pc st hp ho).2 (ouS_ok hJ fu s pc' st' hp' ho').2 hpp (ouS_ag hn hM hw fu s pc pc' st st' hp hp' ho ho' hpp hs)
end
def cntW (e:En) (w:Int) (l:List Int):Nat:=l.countP fun x=>e.M x.toNat w.toNat
theorem cw_le (hM:Lt.Lat e.n e.M) {w:Int} (hw:okI e.n w):∀(a b:List Int),okV e.n a→okV e.n b→LV e a b→cntW e w b≤cntW e w a
 |[],[],_,_,_=>Nat.le_refl _
 |[],_::_,_,_,h=>by have:=h.1;simp at this
 |_::_,[],_,_,h=>by have:=h.1;simp at this
 | x::a,y::b,ha,hb,h=>by
   have hr:=cw_le hM hw a b (fun z hz=>ha z (List.mem_cons_of_mem _ hz)) (fun z hz=>hb z (List.mem_cons_of_mem _ hz)) ⟨by simpa using h.1,fun i u v hu hv=>h.2 (i+1) u v (by simpa using hu) (by simpa using hv)⟩;have h0:=h.2 0 x y rfl rfl;have hx:=ha x (List.mem_cons_self ..);have hy:=hb y (List.mem_cons_self ..);unfold cntW at hr⊢;rw[List.countP_cons,List.countP_cons];by_cases hyw:e.M y.toNat w.toNat=true
   · have:e.M x.toNat w.toNat=true:=L_trans hM hx hy hw h0 hyw;rw[if_pos hyw,if_pos this];omega
   rw[if_neg hyw];split<;>omega
theorem cw_lt (hM:Lt.Lat e.n e.M) {w:Int} (hw:okI e.n w):∀(a b:List Int),okV e.n a→okV e.n b→LV e a b→(∃(i:Nat) (x y:Int),a[i]? =some x∧b[i]? =some y∧e.L x w∧¬e.L y w)→cntW e w b<cntW e w a
 |[],_,_,_,_,h=>by obtain⟨i,x,y,h1,_⟩:=h;simp at h1
 |_::_,[],_,_,_,h=>by obtain⟨i,x,y,_,h1,_⟩:=h;simp at h1
 | x ::a,y::b,ha,hb,h,hs=>by
   have hl:LV e a b:=⟨by simpa using h.1,fun i u v hu hv=>h.2 (i+1) u v (by simpa using hu) (by simpa using hv)⟩;have oa:okV e.n a:=fun z hz=>ha z (List.mem_cons_of_mem _ hz);have ob:okV e.n b:=fun z hz=>hb z (List.mem_cons_of_mem _ hz);have hr:=cw_le hM hw a b oa ob hl;have h0:=h.2 0 x y rfl rfl;have hx:=ha x (List.mem_cons_self ..);have hy:=hb y (List.mem_cons_self ..);obtain⟨i,u,v,h1,h2,h3,h4⟩:=hs;cases i with
   | zero=>
     cases h1;cases h2;unfold cntW at hr⊢;have h3':e.M x.toNat w.toNat=true:=h3;have h4':¬e.M y.toNat w.toNat=true:=h4;rw[List.countP_cons,List.countP_cons,if_neg h4',if_pos h3'];omega
   | succ i=>
     have:=cw_lt hM hw a b oa ob hl ⟨i,u,v,by simpa using h1,by simpa using h2,h3,h4⟩;unfold cntW at this⊢;rw[List.countP_cons,List.countP_cons];by_cases hyw:e.M y.toNat w.toNat=true
     · have:e.M x.toNat w.toNat=true:=L_trans hM hx hy hw h0 hyw;rw[if_pos hyw,if_pos this];omega
     rw[if_neg hyw];split<;>omega
theorem cw_len (w:Int) (l:List Int):cntW e w l≤l.length:=List.countP_le_length
def rdN (J:Int→Int→Int) (nl:List Int→Int) (g:Int→List Int→List Int):Nat→List Int→Nat
 |0,_=>0
 |k+1,st=>if mgF J st (g (nl st) st)=st then 1 else 1+rdN J nl g k (mgF J st (g (nl st) st))
section
variable {nl:List Int→Int} {g:Int→List Int→List Int}
theorem rd_chain (hn:0<e.n) (hM:Lt.Lat e.n e.M) {w:Int} (hw:okI e.n w) (hnl:∀st,okV e.n st→okI e.n (nl st)) (hg:∀pc st,okI e.n pc→okV e.n st→(g pc st).length=st.length∧okV e.n (g pc st))
  (hga:∀a b,okV e.n a→okV e.n b→AG e w a b→AG e w (g (nl a) a) (g (nl b) b)):∀(m:Nat) (st:List Int),okV e.n st→(∃(i:Nat) (x y:Int),(itR e.J nl g m st)[i]? =some x∧(itR e.J nl g (m+1) st)[i]? =some y∧e.L x w∧¬e.L y w)→m+1≤cntW e w st
 | 0,st,ho,hs=>by
   obtain⟨h1,h2⟩:=hg (nl st) st (hnl st ho) ho;have:=cw_lt hM hw st _ ho (mgF_ok (J_ok hn hM) st (g (nl st) st)) (mg_l hn hM ho h2 h1) hs;omega
 | m+1,st,ho,hs=>by
   obtain⟨h1,h2⟩:=hg (nl st) st (hnl st ho) ho;have ho':=mgF_ok (J_ok hn hM) st (g (nl st) st);have hle:=mg_l hn hM ho h2 h1;have ih:=rd_chain hn hM hw hnl hg hga m (mgF e.J st (g (nl st) st)) ho' hs;by_cases hd:∃(i:Nat) (x y:Int),st[i]? =some x∧(mgF e.J st (g (nl st) st))[i]? =some y∧e.L x w∧¬e.L y w
   · have:=cw_lt hM hw st _ ho ho' hle hd;omega
   exfalso;have hag:AG e w st (mgF e.J st (g (nl st) st)):=⟨hle.1,fun i x y hx hy=>⟨fun h=>Classical.byContradiction fun k=>hd ⟨i,x,y,hx,hy,h,k⟩,fun h=>L_trans hM (ho x (List.mem_of_getElem? hx)) (ho' y (List.mem_of_getElem? hy)) hw (hle.2 i x y hx hy) h⟩⟩;have hag2:=itR_ag hn hM hw hnl hnl hg hga (m+1) _ _ ho ho' hag;obtain⟨i,x,y,a1,a2,a3,a4⟩:=hs;exact a4 ((hag2.2 i x y a1 a2).1 a3)
theorem rd_unst:∀(k j:Nat) (st:List Int),j+2≤rdN e.J nl g k st→itR e.J nl g (j+1) st≠itR e.J nl g j st
 |0,j,st,h=>by simp[rdN]at h
 | k+1,j,st,h=>by
   simp only[rdN]at h;split at h
   · omega
   rename_i hm;cases j with
   |zero=>exact hm
   |succ j=>exact rd_unst k j _ (by omega)
theorem rd_le (hn:0<e.n) (hM:Lt.Lat e.n e.M) (hnl:∀st,okV e.n st→okI e.n (nl st)) (hg:∀pc st,okI e.n pc→okV e.n st→(g pc st).length=st.length∧okV e.n (g pc st))
  (hga:∀w,okI e.n w→∀a b,okV e.n a→okV e.n b→AG e w a b→AG e w (g (nl a) a) (g (nl b) b)) (k:Nat) (st:List Int) (ho:okV e.n st):rdN e.J nl g k st≤st.length+1:=by
 refine Classical.byContradiction fun hc=>?_;have hu:=rd_unst (e:=e) (nl:=nl) (g:=g) k st.length st (by omega);obtain⟨l1,o1⟩:=itR_ok (J_ok hn hM) hnl hg st.length st ho;obtain⟨g1,g2⟩:=hg (nl (itR e.J nl g st.length st)) _ (hnl _ o1) o1;have hle:=mg_l hn hM o1 g2 g1;have hsu:=itR_succ (J:=e.J) (nl:=nl) (g:=g) st.length st;rw[←hsu]at hle;have ho':okV e.n (itR e.J nl g (st.length+1) st):=(itR_ok (J_ok hn hM) hnl hg _ st ho).2
 have hex:∃(i:Nat) (x y:Int),(itR e.J nl g st.length st)[i]? =some x∧(itR e.J nl g (st.length+1) st)[i]? =some y∧x≠y:=by
  refine Classical.byContradiction fun hno=>hu ?_;refine List.ext_getElem? fun i=>?_;rcases Nat.lt_or_ge i (itR e.J nl g st.length st).length with hi|hi
  · have hi':i<(itR e.J nl g (st.length+1) st).length:=by have:=hle.1;omega
    rw[List.getElem?_eq_getElem hi,List.getElem?_eq_getElem hi'];refine congrArg some (Classical.byContradiction fun hne=>hno ⟨i,_,_,List.getElem?_eq_getElem hi,List.getElem?_eq_getElem hi',fun h=>hne h.symm⟩)
  rw[List.getElem?_eq_none_iff.2 hi,List.getElem?_eq_none_iff.2 (by have:=hle.1;omega)]
 obtain⟨i,x,y,hx,hy,hne⟩:=hex;have okx:=o1 x (List.mem_of_getElem? hx);have oky:=ho' y (List.mem_of_getElem? hy);have:=rd_chain hn hM okx hnl hg (hga x okx) st.length st ho ⟨i,x,y,hx,hy,L_refl hM okx,fun h=>hne (L_anti hM okx oky (hle.2 i x y hx hy) h)⟩;have:=cw_len (e:=e) x st;omega
theorem fxT_len (hJ:∀a b,okI e.n (e.J a b)) (hnl:∀st,okV e.n st→okI e.n (nl st)) (hg:∀pc st,okI e.n pc→okV e.n st→(g pc st).length=st.length∧okV e.n (g pc st)) {m:Int→List Int→List Int} {B N:Nat} (hm:∀s,okV e.n s→s.length=N→(m (nl s) s).length≤B):
  ∀(k:Nat) (st:List Int),okV e.n st→st.length=N→(fxT e.J nl g m k st).length≤rdN e.J nl g k st*B
 |0,st,ho,hl=>by simp[fxT]
 | k+1,st,ho,hl=>by
   obtain⟨h1,h2⟩:=hg (nl st) st (hnl st ho) ho;have:=hm st ho hl;simp only[fxT,rdN,List.length_append];split
   · simp;omega
   have ih:=fxT_len hJ hnl hg hm k _ (mgF_ok hJ st (g (nl st) st)) (by rw[mgF_len _ h1,hl]);rw[Nat.add_mul,Nat.one_mul];omega
end
mutual
def otS:St→Nat
 | .mk d _ _ _ _ a b _=>(if d=1 then 1 else 0)+(otL a+otL b)
def otL:List St→Nat
 |[]=>0
 |s::l=>otS s+otL l
end
mutual
theorem rfS_len (hn:0<e.n) (hM:Lt.Lat e.n e.M) (fu V:Nat):∀(s:St) (k:Nat) (pc:Int) (st:List Int) (D:Nat),sdL [s]≤D+1→okI e.n pc→okV e.n st→st.length=V→(rfS e fu s k pc st).length≤(V+1) ^ D*otS s
 | .mk d c v n tm a b bs,k,pc,st,D,hD,hp,ho,hl=>by
   have hJ:=J_ok hn hM;have hnl:∀s,okV e.n s→okI e.n (tlT e.J s tm pc):=fun s _=>tlT_ok hJ s tm pc hp;have hg:=fun p s h1 h2=>ouL_ok hJ fu a p s h1 h2;have hpos:1≤(V+1) ^ D:=Nat.one_le_pow _ _ (by omega);have ha:sdL a≤D:=by simp only[sdL]at hD;omega
   have hb:sdL b≤D:=by simp only[sdL]at hD;omega
   simp only[rfS,otS];split
   · rename_i h4;rw[if_neg (by omega),Nat.zero_add];have hrd:=rd_le hn hM (nl:=fun s=>tlT e.J s tm pc) hnl hg (fun w hw x y hx hy h=>ouL_ag hn hM hw fu a _ _ x y (hnl x hx) (hnl y hy) hx hy (tlT_ag hn hM hw hx hy h tm pc pc hp hp Iff.rfl) h) fu st ho;cases D with
     | zero=>
       have:a=[]:=by
        cases a with
        |nil=>rfl
        | cons x r=>
          obtain⟨d',c',v',n',t',a',b',bs'⟩:=x;simp only[sdL]at ha;omega
       subst this;have:=fxT_len (m:=rfL e fu [] (k+1)) (B:=0) (N:=V) hJ (nl:=fun s=>tlT e.J s tm pc) hnl hg (fun s _ _=>by simp[rfL]) fu st ho hl;omega
     | succ D=>
       have:=fxT_len (m:=rfL e fu a (k+1)) (B:=(V+1) ^ D*otL a) (N:=V) hJ (nl:=fun s=>tlT e.J s tm pc) hnl hg (fun s hs hsl=>rfL_len hn hM fu V a (k+1) _ s D ha (hnl s hs) hs hsl) fu st ho hl;refine Nat.le_trans this ?_;rw[hl]at hrd;refine Nat.le_trans (Nat.mul_le_mul_right _ hrd) ?_;rw[←Nat.mul_assoc,Nat.mul_comm (V+1),←Nat.pow_succ,Nat.mul_add];exact Nat.le_add_right _ _
   split
   · rename_i h4 h3;rw[if_neg (by omega),Nat.zero_add,List.length_append,Nat.mul_add];cases D with
     | zero=>
       have:∀l:List St,sdL l≤0→l=[]:=fun l h=>by
        cases l with
        |nil=>rfl
        | cons x r=>
          obtain⟨d',c',v',n',t',a',b',bs'⟩:=x;simp only[sdL]at h;omega
       rw[this a ha,this b hb];simp[rfL]
     | succ D=>
       have h1:=rfL_len hn hM fu V a (k+1) _ st D ha (hnl st ho) ho hl;have h2:=rfL_len hn hM fu V b (k+1+szL a) _ st D hb (hnl st ho) ho hl;have hle:(V+1) ^ D≤(V+1) ^ (D+1):=Nat.pow_le_pow_right (by omega) (by omega);have:=Nat.mul_le_mul_right (otL a) hle;have:=Nat.mul_le_mul_right (otL b) hle;omega
   rename_i h4 h3;by_cases h1:d=1
   · rw[if_pos h1];have:(V+1) ^ D*1≤(V+1) ^ D*(1+(otL a+otL b)):=Nat.mul_le_mul_left _ (by omega);split
     · simp only[List.length_cons,List.length_nil];omega
     simp
   rw[if_neg (by simp[fltB,St.do_,h1])];simp
theorem rfL_len (hn:0<e.n) (hM:Lt.Lat e.n e.M) (fu V:Nat):∀(l:List St) (k:Nat) (pc:Int) (st:List Int) (D:Nat),sdL l≤D+1→okI e.n pc→okV e.n st→st.length=V→(rfL e fu l k pc st).length≤(V+1) ^ D*otL l
 |[],k,pc,st,D,hD,hp,ho,hl=>by simp[rfL]
 | s::l,k,pc,st,D,hD,hp,ho,hl=>by
   have hJ:=J_ok hn hM;obtain⟨h1,h2⟩:=ouS_ok hJ fu s pc st hp ho
   have e1:sdL [s]≤D+1:=by
    obtain⟨d',c',v',n',t',a',b',bs'⟩:=s;simp only[sdL]at hD⊢;omega
   have e2:sdL l≤D+1:=by
    obtain⟨d',c',v',n',t',a',b',bs'⟩:=s;simp only[sdL]at hD;omega
   have a1:=rfS_len hn hM fu V s k pc st D e1 hp ho hl;have a2:=rfL_len hn hM fu V l (k+szS s) pc _ D e2 hp h2 (by rw[h1,hl]);simp only[rfL,otL,List.length_append,Nat.mul_add];omega
end
end
end Go.Proofs.YtfjidddhehckoaaGreat

namespace Go.Proofs.YtfjidddhehckoaaGreat
open Go Go.Hl
theorem strict_ext:∀{l m:List Int},l.Pairwise (· < ·)→m.Pairwise (· < ·)→(∀x,x∈l↔x∈m)→l=m
 |[],[],_,_,_=>rfl
 |[],y::m,_,_,h=>absurd ((h y).2 (List.mem_cons_self ..)) (by simp)
 |x::l,[],_,_,h=>absurd ((h x).1 (List.mem_cons_self ..)) (by simp)
 | x ::l,y::m,hl,hm,h=>by
   rw[List.pairwise_cons]at hl hm
   have hxy:x=y:=by
    have h1:=(h x).1 (List.mem_cons_self ..);have h2:=(h y).2 (List.mem_cons_self ..);rcases List.mem_cons.1 h1 with h1|h1
    · exact h1
    rcases List.mem_cons.1 h2 with h2|h2
    · exact h2.symm
    have:=hm.1 x h1;have:=hl.1 y h2;omega
   subst hxy;rw[strict_ext hl.2 hm.2 fun z=>?_];constructor
   · intro hz;rcases List.mem_cons.1 ((h z).1 (List.mem_cons_of_mem _ hz))with h1|h1
     · have:=hl.1 z hz;omega
     exact h1
   intro hz;rcases List.mem_cons.1 ((h z).2 (List.mem_cons_of_mem _ hz))with h1|h1
   · have:=hm.1 z hz;omega
   exact h1
theorem compact_upto {s:List Int} (hs:s.Pairwise (· ≤ ·)):∀m:Nat,m≤s.length→(Lib.compactUpTo s.toArray m).Pairwise (· < ·)∧∀x,x∈Lib.compactUpTo s.toArray m↔∃j,j<m∧s[j]? =some x
 | 0,_=>by
   have:Lib.compactUpTo s.toArray 0=[]:=rfl;rw[this];exact⟨List.Pairwise.nil,fun x=>⟨fun h=>by simp at h,fun⟨j,h,_⟩=>absurd h (Nat.not_lt_zero _)⟩⟩
 | m + 1,hm=>by
   obtain⟨h1,h2⟩:=compact_upto hs m (by omega);have hle:∀i j (hi:i<s.length) (hj:j<s.length),i<j→s[i]≤s[j]:=fun i j hi hj hij=>List.pairwise_iff_getElem.1 hs i j hi hj hij;have hd:∀j (hj:j<s.length),s.toArray[j]! =s[j]:=fun j hj=>by simp[hj]
   rw[Lib.compactUpTo_succ,hd m (by omega)];by_cases hk:Lib.keeps s.toArray m=true
   · rw [if_pos hk];refine⟨List.pairwise_append.2 ⟨h1,List.pairwise_singleton ..,fun a ha b hb=>?_⟩,fun x=>?_⟩
     · obtain⟨j,hj,he⟩:=(h2 a).1 ha;have hb':b=s[m]:=by simpa using hb
       subst hb';obtain⟨hj',rfl⟩:=List.getElem?_eq_some_iff.1 he
       have hk':m=0∨s[m]≠s[m - 1]:=by
        unfold Lib.keeps at hk;rw[hd m (by omega),hd (m - 1) (by omega)]at hk;simpa using hk
       rcases hk' with hk'|hk'
       · omega
       have a1:=hle (m - 1) m (by omega) (by omega) (by omega);rcases Nat.lt_or_ge j (m - 1)with h3|h3
       · have:=hle j (m - 1) hj' (by omega) h3;omega
       have:j=m - 1:=by omega
       subst this;omega
     simp only[List.mem_append,List.mem_singleton,h2 x];constructor
     · rintro(⟨j,hj,he⟩|rfl)
       · exact⟨j,by omega,he⟩
       exact⟨m,by omega,List.getElem?_eq_getElem _⟩
     rintro⟨j,hj,he⟩;rcases Nat.lt_or_ge j m with h3|h3
     · exact .inl ⟨j,h3,he⟩
     have:j=m:=by omega
     subst this;obtain⟨_,rfl⟩:=List.getElem?_eq_some_iff.1 he;exact .inr rfl
   rw[if_neg hk,List.append_nil];refine⟨h1,fun x=>?_⟩;rw[h2 x];constructor
   · rintro⟨j,hj,he⟩;exact⟨j,by omega,he⟩
   rintro⟨j,hj,he⟩;rcases Nat.lt_or_ge j m with h3|h3
   · exact⟨j,h3,he⟩
   have:j=m:=by omega
   subst this
   have hk':¬(j=0∨s[j]≠s[j - 1]):=by
    unfold Lib.keeps at hk;rw[hd j (by omega),hd (j - 1) (by omega)]at hk;simpa using hk
   obtain⟨_,rfl⟩:=List.getElem?_eq_some_iff.1 he;have h0:j≠0:=fun h=>hk' (.inl h);refine⟨j - 1,by omega,?_⟩;rw[List.getElem?_eq_getElem (by omega)];exact congrArg some (Classical.byContradiction fun h=>hk' (.inr fun k=>h k.symm))
theorem compact_sorted {s:List Int} (hs:s.Pairwise (· ≤ ·)):(Lib.compact s).Pairwise (· < ·)∧∀x,x∈Lib.compact s↔x∈s:=by
 obtain⟨h1,h2⟩:=compact_upto hs s.length (Nat.le_refl _);unfold Lib.compact;refine⟨h1,fun x=>?_⟩;rw[h2 x,List.mem_iff_getElem?];exact⟨fun⟨j,_,h⟩=>⟨j,h⟩,fun⟨j,h⟩=>⟨j,(List.getElem?_eq_some_iff.1 h).1,h⟩⟩
theorem sort_pair (l:List Int):(l.mergeSort fun x y=>decide (x≤y)).Pairwise (· ≤ ·):=by
 have:=List.pairwise_mergeSort (le:=fun x y:Int=>decide (x≤y)) (fun a b c h1 h2=>by simp only[decide_eq_true_eq]at*;omega) (fun a b=>by simp only[Bool.or_eq_true,decide_eq_true_eq];omega) l;exact this.imp fun h=>by simpa using h
theorem flt_ge (e:En):∀(E:List Ent) (k:Nat),∀x∈fltF e k E,(k:Int)≤x
 |[],k,x,h=>by simp[fltF]at h
 | a ::E,k,x,h=>by
   simp only[fltF,List.mem_append]at h;rcases h with h|h
   · split at h
     · rw[List.mem_singleton.1 h];omega
     simp at h
   have:=flt_ge e E (k+1) x h;omega
theorem flt_strict (e:En):∀(E:List Ent) (k:Nat),(fltF e k E).Pairwise (· < ·)
 |[],k=>List.Pairwise.nil
 | a ::E,k=>by
   simp only[fltF];refine List.pairwise_append.2 ⟨?_,flt_strict e E (k+1),fun x hx y hy=>?_⟩
   · split
     · exact List.pairwise_singleton ..
     exact List.Pairwise.nil
   have:=flt_ge e E (k+1) y hy;split at hx
   · rw[List.mem_singleton.1 hx];omega
   simp at hx
theorem compact_eq {e:En} {F:List Int} {E:List Ent} {k:Nat} (h:∀x,x∈F↔x∈fltF e k E):Lib.compact (F.mergeSort fun x y=>decide (x≤y))=fltF e k E:=by
 obtain⟨h1,h2⟩:=compact_sorted (sort_pair F);refine strict_ext h1 (flt_strict e E k) fun x=>?_;rw[h2 x,List.mem_mergeSort,h x]
theorem fold_eq {e:En} (hn:0<e.n) (hM:Lt.Lat e.n e.M) {a:Int} (ha:okI e.n a) {l m:List Int} (hm:okV e.n m) (h:∀x,x∈l↔x∈m):l.foldl e.J a=m.foldl e.J a:=by
 have hl:okV e.n l:=fun x hx=>hm x ((h x).1 hx)
 have okf:∀(l:List Int) (a:Int),okI e.n a→okI e.n (l.foldl e.J a):=fun l=>by
  induction l with
  |nil=>intro a h;exact h
  |cons x l ih=>intro a h;exact ih _ (J_ok hn hM _ _)
 refine eq_of_iff hM (okf l a ha) (okf m a ha) fun w hw=>?_;rw[fold_iff hn hM hw l a ha hl,fold_iff hn hM hw m a ha hm];exact and_congr_right fun _=>forall_congr' fun x=>by rw[h x]
end Go.Proofs.YtfjidddhehckoaaGreat
