/- Contracts of functions and plain facts about what they compute. Conditions: as each theorem states. -/
import Derived.Test.YtdccocolnaklkaaGreatDoorK16
import Derived.Test.YtdccocolnaklkaaGreatDoorK17
import Derived.Test.YtdccocolnaklkaaGreatDoorK11
set_option linter.unusedSimpArgs false
set_option linter.unusedVariables false
set_option linter.unnecessarySimpa false
set_option maxRecDepth 100000
set_option maxHeartbeats 2000000
namespace Go.Proofs.YtdccocolnaklkaaGreatDoor
open Go Go.Hl
theorem X89 (l:List St) (hl:l.length<=1000000) (d:Nat) (hd:d<1000000):Con Tryz.prog 57 false [.one (.c (.sl 10 (Xf l)))] (.v (.one (.own d))) (some (.row 63 10 (Xf l))) d:=by
 have hlen:=encSsL l;obtain⟨L,hL⟩:∃x,Xf l=x:=⟨_,rfl⟩;rw[hL]at hlen⊢;have hroom:QF L.length 144:=XO (by omega) (by omega);clear hL hlen hl;cases L with
 | nil=>
   refine X27 ?_ ?_
   .refine X2 Tryz.func57 ?_;simp only[Tryz.f57];refine X4 ?_;refine X0<|(X8 (fun h2=>?_) fun h2=>?_)
    .refine X4 ?_;exact Xn ⟨.inr rfl,_,X4q 2 d 63 10 rfl (by decide) hd,⟨⟨_,by simp;rfl,by simp[Xl]⟩,by simp,fun h=>by cases h⟩⟩
    exact absurd h2 (by simp)
   intro a cap;refine X2 Tryz.func57 ?_;simp only[Tryz.f57];refine X4 ?_;refine X0<|(X8 (fun h2=>?_) fun h2=>?_)
   .exact absurd h2 (by simp)
   refine Q6 (X4M 0 10 rfl) ?_;refine X4 ?_;exact Xn ⟨.inr rfl,_,ZP 2 7 d rfl rfl hd,⟨⟨_,by simp;rfl,by simp[Xl]⟩,by simp,fun h=>by cases h⟩⟩
 | cons v r=>
   refine X2 Tryz.func57 ?_;simp only[Tryz.f57];rw[List.length_cons]at hroom;refine X4 ?_;refine X0<|(X8 (fun h2=>?_) fun h2=>?_)
   .exact absurd h2 (by simp)
   refine X4 ?_;exact Xn ⟨.inr rfl,_,ZP 2 7 d rfl rfl hd,⟨⟨_,by simp;rfl,by simp[Xl]⟩,by simp,fun h=>by cases h⟩⟩
theorem hatA_con (v:Ht) (k:Nat) (hk:k<100) (d:Nat):Con Tryz.prog 59 true [aH v,.one (.c (.ptr [iC k]))] (.v (lb (takO k v))) none d:=by
 have c1:=X4i k hk;have hcat:=(X4O k hk).1;unfold takO;obtain⟨R,hR⟩:∃x,X2e k=x:=⟨_,rfl⟩;rw[hR]at c1 hcat⊢;simp only[X0c]at hcat⊢;obtain⟨nm,lo,hi,⟨o,n,ks⟩⟩:=v;clear hR;refine X2 Tryz.func59 ?_;simp only[Tryz.f59];simp only[aH,Ht.enc,Tm.enc,List.cons_append,List.nil_append,Na,Nb];refine X4 ?_;refine X0<|(Xx [⟨true,.v (.one (.c (sC R))),none⟩] (by kernel_rfl) (by kernel_rfl) (by rfl) (by simp[*];first|exact⟨rfl,Iff.rfl⟩|exact⟨rfl,trivial⟩|rfl) ?_ ?_)
 .first|exact c1 _|exact trivial|simpa[*]using c1 _
 exact Qd
theorem hatB_con (f:Fl) (k:Nat) (hk:k<100) (hl:f.hats.length<=1000000000) (d:Nat):Con Tryz.prog 58 true [.one (.c (.ptr f.enc)),.one (.c (.ptr [iC k]))] (.v (lb (X0x f.hats k))) none d:=by
 have cc:=X46 f.hats 59 [CD.ptr [iC k]] (takO k) hl (fun v _ d=>hatA_con v k hk d);unfold X0x;obtain⟨B,hB⟩:∃b,f.hats.any (takO k)=b:=⟨_,rfl⟩;rw[hB]at cc⊢;obtain⟨vars,hats,body⟩:=f;clear hB hl;refine X2 Tryz.func58 ?_;simp only[Tryz.f58];simp only[Fl.enc]at cc⊢;refine X4 ?_;refine X0<|(Xa cc ?_);exact Qd
theorem frK_app {a b:List Ht} (h:(a++b).length<100):frK a<=frK (a++b):=by
 obtain⟨_,h1,_⟩:=X14 h;obtain⟨_,_,h2⟩:=X14 (hs:=a) (by simp at h;omega);rcases Nat.lt_or_ge (frK (a++b)) (frK a)with hlt|hge
 .have:=h2 _ hlt;unfold X0x at this h1;rw[List.any_append,this]at h1;simp at h1
 exact hge
set_option maxHeartbeats 64000000 in
theorem X6T (f:Fl) (at_:List Int) (hla:at_.length<=12) (hv:f.vars.length<=1000) (hh:f.hats.length<=10) (hn:Xe f.body+XN f.hats<=100000) (h0:XU f=0) (h5:e5 f at_=0)
  (hk:∀d,Con Tryz.prog 44 false [aF (QM nmH (otG (stQ f.vars) f.vars f.body) f (at_.map Int.toNat))] (.tup [aF (Z9 (QM nmH (otG (stQ f.vars) f.vars f.body) f (at_.map Int.toNat))).1,li (Z9 (QM nmH (otG (stQ f.vars) f.vars f.body) f (at_.map Int.toNat))).2]) none d) (d:Nat):
  Con Tryz.prog 21 false [aF f,lI at_] (.tup [aF (Z9 (QM nmH (otG (stQ f.vars) f.vars f.body) f (at_.map Int.toNat))).1,li (Z9 (QM nmH (otG (stQ f.vars) f.vars f.body) f (at_.map Int.toNat))).2]) none d:=by
 obtain⟨res,hres⟩:∃r,Z9 (QM nmH (otG (stQ f.vars) f.vars f.body) f (at_.map Int.toNat))=r:=⟨_,rfl⟩;rw[hres]at hk⊢;obtain⟨hA,hA2⟩:=at_ok h5;have chh:=X1U f.hats (by omega) 18 (by decide);have cb:=X89 f.body (by have:=XB f.body;omega) 21 (by decide);have hbl:f.body.length<=100000:=by have:=XB f.body;omega
 have csub:=fun(a:Nat) (s0:St) h1 h2=>subR_con f h0 a s0 h1 h2
 have hHT:∀(y:Nat) (a:Nat) (s:St) (w:Vr),(at_.map Int.toNat)[y]? =some a->f.body[a]? =some s->f.vars[s.var.toNat]? =some w->
   QW nmH (otG (stQ f.vars) f.vars f.body) f.vars f.body f.hats ((at_.map Int.toNat).take (y+1))=QW nmH (otG (stQ f.vars) f.vars f.body) f.vars f.body f.hats ((at_.map Int.toNat).take y)++[⟨nmH (QW nmH (otG (stQ f.vars) f.vars f.body) f.vars f.body f.hats ((at_.map Int.toNat).take y)),w.low,w.high,otQ f (a:Int)⟩]:=by
  intro y a s w h1 h2 h3;rw[List.take_add_one,h1,Option.toList_some,X1g];unfold X1x otQ;rw[h2,Option.getD_some,h3,Option.getD_some,Int.toNat_natCast,h2,Option.getD_some]
 have hHl:=fun y=>X26 (nm:=nmH) (T:=otG (stQ f.vars) f.vars f.body) (vars:=f.vars) (body:=f.body) ((at_.map Int.toNat).take y) f.hats
 have hHm:∀y,∃r,QW nmH (otG (stQ f.vars) f.vars f.body) f.vars f.body f.hats ((at_.map Int.toNat).take (y+1))=QW nmH (otG (stQ f.vars) f.vars f.body) f.vars f.body f.hats ((at_.map Int.toNat).take y)++r:=by
  intro y;rw[List.take_add_one];cases(at_.map Int.toNat)[y]? with
  |none=>exact⟨[],by simp⟩
  |some a=>exact⟨_,by rw[Option.toList_some,X1g]⟩
 obtain⟨al,hal⟩:∃x,at_.map Int.toNat=x:=⟨_,rfl⟩;rw[hal]at hres hHT hHl hA hk hHm;obtain⟨ot,hot⟩:∃x,otQ f=x:=⟨_,rfl⟩;rw[hot]at hHT csub;obtain⟨HX,hHS⟩:∃HX:Nat->List Ht,∀y,QW nmH (otG (stQ f.vars) f.vars f.body) f.vars f.body f.hats (al.take y)=HX y:=⟨_,fun _=>rfl⟩;obtain⟨BD,hBD⟩:∃BD:Nat->List St,∀y,WR f.hats.length al y f.body=BD y:=⟨_,fun _=>rfl⟩
 have hB0:BD 0=f.body:=by
  rw[<-hBD];unfold WR
  have:(fun(k:Nat) (s:St)=>if k∈al.take 0 then X3Q f.hats.length al k s else s)=fun _ s=>s:=by
   funext k s
   simp
  rw[this,X0h]
 have hH0:HX 0=f.hats:=by rw[<-hHS];rfl
 have hBg:=fun y a s h1 h2=>@X9O f.hats.length al f.body y a s hA.asc h1 h2;have hBn:=fun y a s n h1 h2 h3=>@rel_nl f.hats.length al f.body y a s n hA.asc h1 h2 h3;simp only[hHS,hBD]at hHT hHl hBg hBn hHm
 have hF:QM nmH (otG (stQ f.vars) f.vars f.body) f al=⟨f.vars,HX al.length,BD al.length⟩:=by
  unfold QM;rw[<-hHS,<-hBD,List.take_length]
 rw[hF]at hres hk;have hall:al.length=at_.length:=by rw[<-hal];simp
 have halg:∀(y:Nat) (i:Int),at_[y]? =some i->al[y]? =some i.toNat:=fun y i h=>by rw[<-hal];simp[h]
 have hvl:∀(a:Nat) (s:St),f.body[a]? =some s->s.do_=0->∃(v:Nat) (w:Vr),s.var=(v:Int)/\f.vars[v]? =some w:=fun a s h1 h2=>by
  obtain⟨hz,_,_,hsc,_⟩:=XA h0;obtain⟨h3,w,h4⟩:=W0 ((Z8 f.body true a s hsc h1).2 h2);exact⟨s.var.toNat,w,by omega,h4⟩
 have hHl2:∀y,(HX y).length<=22:=fun y=>by rw[hHl];simp;omega
 obtain⟨KK,hK0,hK1,hK2⟩:∃KK:Nat->Nat,KK 0=0/\(∀y,KK (y+1)=frK (HX y))/\∀y,KK y<=frK (HX y):=by
  refine⟨fun y=>match y with|0=>0|y+1=>frK (HX y),rfl,fun _=>rfl,fun y=>?_⟩;cases y with
  |zero=>exact Nc _
  | succ y=>
    obtain⟨r,hr⟩:=hHm y;have:=hHl2 (y+1);rw[hr]at this;show frK (HX y)<=frK (HX (y+1));rw[hr];exact frK_app (by omega)
 rw[hall]at hres hk;clear hHS hBD hal hot hF h0 h5 hn hHm;obtain⟨vars,hats,body⟩:=f;simp only at hv hh hHT hHl hB0 hH0 hBg hBn hk hvl hres chh cb csub hbl hA;clear hres;obtain⟨⟨kv,kh,kb⟩,kc⟩:=res;refine X2 Tryz.func21 ?_;simp only[Tryz.f21];simp only[aF,Fl.enc,Na,Nb]at csub hk⊢;refine X4 ?_;refine X0<|(Xx [⟨false,.v (.one (.own 18)),some (.row 94 6 (Xu hats))⟩,⟨false,.v (.one (.own 21)),some (.row 63 10 (Xf body))⟩] (by kernel_rfl) (by kernel_rfl) (by rfl) (by simp[*,XG,Qp,XW,cellsOf,WG,WE,X0O,WT,Zm,Wt];first|exact⟨rfl,Iff.rfl⟩|exact⟨rfl,trivial⟩|rfl) ?_ ?_)
 .first|exact⟨chh,cb⟩|exact trivial|(repeat' first|exact trivial|exact chh|exact cb|apply And.intro)
 refine X4 ?_;refine X0<|X0<|X1 ?_
 refine X3<|(Xb [2,4,6,7,23,24] (fun(y:Nat)=>[(25,.v (li y))]) (fun(y:Nat)=>[(2,.box [.c (.sl 5 (Xr vars)),.c (.sl 6 (Xu hats)),.c (.sl 10 (Xf body))]),(4,.box [.c (.lit XR),.c (.lit XR),.c (.lit XR)]),(6,.box [.c (.sl 5 (Xr vars)),.own 1001,.own 1002]),(7,.box [.c (iC (KK y))]),(1001,.row 94 6 (Xu (HX y))),(1002,.row 63 10 (Xf (BD y)))]) (fun(y:Nat)=>y<=at_.length) (fun(y:Nat)=>at_.length - y) (0:Nat) (Nc _) ?_ (by
  rw[hH0,hB0,hK0]
  exact QJ (fun n=>if n=1001 then 18 else if n=1002 then 21 else n) [] rfl (by simp[upS,Ql]) (by simp[upS]) (by simp[upS])))
 rintro y hy;simp only[LN,Nat.reduceBEq,Nat.reduceLT];clear hH0 hB0 hK0 chh cb;refine(XS (fun h6=>X6 ?_) fun h6=>?_)
 .have hlt:y<at_.length:=by omega
  obtain⟨i,hi,_⟩:=Xw hlt;have hmem:=hA2 i (N3 hi);have hay9:=halg y i hi;obtain⟨a,rfl⟩:∃a:Nat,i=a:=⟨i.toNat,by omega⟩;rw[Int.toNat_natCast]at hay9;have hi':(Xk at_)[y]? =some [iC (a:Nat)]:=by rw[ZB,hi];rfl
  obtain⟨s,hs,hd0⟩:=hA.get a (N3 hay9);have hal9:a<=100000:=by have h:a<body.length:=(N5.1 hs).1;omega
  obtain⟨v,w,hvv,hw⟩:=hvl a s hs hd0;have csub:=csub a s hs hd0;have hHT:=hHT y a s w hay9 hs (by rw[hvv];simpa using hw);have hBg:=Q7 (hBg y a s hay9 hs);have hs':=Q7 hs
  have hln:(HX y).length=hats.length+y:=by
   rw[hHl,Ns,hall];omega
  have hnl:=hBn y a s ((HX y).length:Int) hay9 hs (by rw[hln];simp);obtain⟨hf1,hf2,hf3⟩:=X14 (hs:=HX y) (by omega);have cf:=fun(k:Nat) (hk:k<=frK (HX y))=>hatB_con ⟨vars,HX y,BD y⟩ k (by omega) (by simp only;omega);have hcat:=(X4O (frK (HX y)) (by omega)).1;have cn:=X4i (frK (HX y)) (by omega);have hHe:=X4G (HX y) ⟨nmH (HX y),w.low,w.high,ot (a:Nat)⟩;rw[<-hHT]at hHe;unfold nmH at hHe;have hK1:=hK1 y;have hK2:=hK2 y;obtain⟨kf,hkf9⟩:∃k,frK (HX y)=k:=⟨_,rfl⟩;simp only[Fl.enc]at cf;rw[hkf9]at cf cn hHe hcat hK1 hK2 hf1 hf2 hf3;have hkf22:kf<=22:=Dj hf1 (hHl2 y);obtain⟨NK,hNK⟩:∃x,X2e kf=x:=⟨_,rfl⟩;rw[hNK]at cn hHe hcat;obtain⟨NM,hNM⟩:∃x,X0c++NK=x:=⟨_,rfl⟩;rw[hNM]at hHe;simp only[X0c]at hNM hcat;rcases hO:ot (a:Nat)with⟨uo,un,uk⟩;rw[hO]at csub hHe;obtain⟨sd,sc,sv,sn,⟨so,stn,sks⟩,sa,sb,sbs⟩:=s;obtain⟨wn,wk,wl,wh,wi⟩:=w;simp only[St.cost,St.var]at hnl hvv;subst hvv;have hw':(Xr vars)[v]? =some [sC wn,iC wk,iC wl,iC wh,iC wi]:=by rw[X0f,hw];rfl
  simp only[aT,Ht.enc,Tm.enc,St.enc,Na,Nb,List.cons_append,List.nil_append]at csub hHe hBg hs';obtain⟨W,hW⟩:∃W,(Xf (BD y)).set a [iC 5,iC sc,iC v,iC ((HX y).length:Int),iC 0,iC 0,.lit (.slice none 0 0),.lit (.slice none 0 0),.lit (.slice none 0 0),.lit (.slice none 0 0)]=W:=⟨_,rfl⟩;rw[hW]at hnl;have hw1:=Xz hlt (by omega);have hy1:y+1<=at_.length:=hlt;have hroom:QF ((HX y).length+1) 72:=XO (by omega) (by decide);clear hlt h6 hi hmem hay9 hs hd0 hw hHT hBn hHl hvl hA hA2 halg hkf9 hNK hO hk hln hHl2 hall;refine X0<|X3<|X0<|X1 ?_;refine X4 ?_;refine X0<|X3<|(Xb [2,4,6,7,9,10,23,24,25] (fun(k:Nat)=>[]) (fun(k:Nat)=>[(2,.box [.c (.sl 5 (Xr vars)),.c (.sl 6 (Xu hats)),.c (.sl 10 (Xf body))]),(4,.box [.c (.lit XR),.c (.lit XR),.c (.lit XR)]),(6,.box [.c (.sl 5 (Xr vars)),.own 1001,.own 1002]),(7,.box [.c (iC k)]),(1001,.row 94 6 (Xu (HX y))),(1002,.row 63 10 (Xf (BD y)))]) (fun(k:Nat)=>k<=kf) (fun(k:Nat)=>kf - k) (KK y) hK2 ?_);rintro k hkk;simp only[LN,Nat.reduceBEq,Nat.reduceLT];have cfk:=cf k hkk;have hwk:IntKind.i64.wrap ((k:Int)+1)=(k:Int)+1:=X5;obtain⟨TB,hTB⟩:∃b,X0x (HX y) k=b:=⟨_,rfl⟩;rw[hTB]at cfk;refine X0<|X0<|(Xa cfk ?_);refine(QR (fun h11=>X6 ?_) fun h11=>?_)
  .have hT:TB=true:=by simpa using h11
   have hkn:k+1<=kf:=by
    rcases Nat.lt_or_eq_of_le hkk with h|h
    .exact h
    rw[h,hf2]at hTB;rw[<-hTB]at hT;cases hT
   refine X3<|X1 ?_;exact Xj (k+1) (hkn)
  have hT:TB=false:=by simpa using h11
  have hkn:k=kf:=by
   rcases Nat.lt_or_eq_of_le hkk with h|h
   .have:=hf3 k h;rw[hTB,hT]at this;cases this
   exact h
  subst hkn;clear cfk hTB hf3 hf2 cf h11 hkk;refine(Xd ?_);refine X4 ?_;refine X0<|(Xa csub ?_);refine X0<|(X8 (fun h17=>?_) fun h17=>?_)
  .exact absurd h17 (by simp)
  refine X0<|(XF (by simp[*,XG,Qp,XW];rfl) ?_);clear csub;refine Q6 (s':=⟨⟨89,none⟩,[(2,.v (.one (.at_ 2 0))),(4,.v (.one (.at_ 4 0))),(6,.v (.one (.at_ 6 0))),(7,.v (.one (.at_ 7 0))),(11,.v (.one (.at_ 11 0))),(12,.v (.one (.at_ 12 0))),(23,.v (lI at_)),(24,.v (li at_.length)),(25,.v (li y))],[(2,.box [.c (.sl 5 (Xr vars)),.c (.sl 6 (Xu hats)),.c (.sl 10 (Xf body))]),(4,.box [.c (.lit XR),.c (.lit XR),.c (.lit XR)]),(6,.box [.c (.sl 5 (Xr vars)),.own 1001,.own 1002]),(7,.box [.c (iC k)]),(11,.box [.c (iC sd),.c (iC sc),.c (iC v),.c (iC sn),.c (iC so),.c (iC stn),.c (.sl 3 (Xg sks)),.c (.sl 10 (Xf sa)),.c (.sl 10 (Xf sb)),.c (.sl 1 (Xk sbs))]),(12,.box [.c (iC uo),.c (iC un),.c (.sl 3 (Xg uk))]),(1001,.row 94 6 (Xu (HX y))),(1002,.row 63 10 W)]⟩) ?_ ?_
  .exact QJ (fun n=>n) [] rfl (by simp[upS,Ql]) (by simp[upS,hW]) (by simp)
  refine(X55 (fun D=>⟨⟨89,none⟩,(2,.v (.one (.at_ 2 0)))::(4,.v (.one (.at_ 4 0)))::(6,.v (.one (.at_ 6 0)))::(7,.v (.one (.at_ 7 0)))::(11,.v (.one (.at_ 11 0)))::(12,.v (.one (.at_ 12 0)))::(23,.v (lI at_))::(24,.v (li at_.length))::(25,.v (li y))::oL (D 0) (60,.v (.one (.at_ 6 1))) (oL (D 1) (61,.v (.one (.own 1001))) (oL (D 2) (62,.v (li k)) (oL (D 3) (63,.v (.one (.c (sC NK)))) (oL (D 4) (64,.v (.one (.c (sC NM)))) (oL (D 5) (65,.v (.one (.at_ 2 0))) (oL (D 6) (66,.v (.one (.c (.sl 5 (Xr vars))))) (oL (D 7) (67,.v (.one (.at_ 11 2))) (oL (D 8) (68,.v (li v)) (oL (D 9) (69,.v (.one (.c (.ptr [sC wn,iC wk,iC wl,iC wh,iC wi])))) (oL (D 10) (70,.v (.one (.c (.ptr [iC wl,iC wh,iC wi])))) (oL (D 11) (71,.v (li wl)) (oL (D 12) (72,.v (.one (.at_ 2 0))) (oL (D 13) (73,.v (.one (.c (.sl 5 (Xr vars))))) (oL (D 14) (74,.v (.one (.at_ 11 2))) (oL (D 15) (75,.v (li v)) (oL (D 16) (76,.v (.one (.c (.ptr [sC wn,iC wk,iC wl,iC wh,iC wi])))) (oL (D 17) (77,.v (.one (.c (.ptr [iC wh,iC wi])))) (oL (D 18) (78,.v (li wh)) (oL (D 19) (79,.v (.agg [.c (iC uo),.c (iC un),.c (.sl 3 (Xg uk))])) (oL (D 20) (80,.v (.agg [.c (sC NM),.c (iC wl),.c (iC wh),.c (iC uo),.c (iC un),.c (.sl 3 (Xg uk))])) (oL (D 21) (81,.v (.one (.c (.sl 6 [[sC NM,iC wl,iC wh,iC uo,iC un,.sl 3 (Xg uk)]])))) (oL (D 22) (82,.v (.one (.own 82))) (oL (D 23) (83,.v (.one (.at_ 6 1))) ([])))))))))))))))))))))))),(2,.box [.c (.sl 5 (Xr vars)),.c (.sl 6 (Xu hats)),.c (.sl 10 (Xf body))])::(4,.box [.c (.lit XR),.c (.lit XR),.c (.lit XR)])::(6,.box [.c (.sl 5 (Xr vars)),if D 24=true then .own 82 else .own 1001,.own 1002])::(7,.box [.c (iC k)])::(11,.box [.c (iC sd),.c (iC sc),.c (iC v),.c (iC sn),.c (iC so),.c (iC stn),.c (.sl 3 (Xg sks)),.c (.sl 10 (Xf sa)),.c (.sl 10 (Xf sb)),.c (.sl 1 (Xk sbs))])::(12,.box [.c (iC uo),.c (iC un),.c (.sl 3 (Xg uk))])::oL (D 22) (82,.row 94 6 (Xu (HX y)++[[sC NM,iC wl,iC wh,iC uo,iC un,.sl 3 (Xg uk)]])) (oL (!D 22) (1001,.row 94 6 (Xu (HX y))) ((1002,.row 63 10 W)::[]))⟩) [(0,[],[1,22,23,24]),(1,[0],[22,23,24]),(2,[],[3,4,20,21,22,23,24]),(3,[2],[4,20,21,22,23,24]),(4,[2,3],[20,21,22,23,24]),(5,[],[6,9,10,11,20,21,22,23,24]),(6,[5],[9,10,11,20,21,22,23,24]),(7,[],[8,9,10,11,20,21,22,23,24]),(8,[7],[9,10,11,20,21,22,23,24]),(9,[5,6,7,8],[10,11,20,21,22,23,24]),(10,[5,6,7,8,9],[11,20,21,22,23,24]),(11,[5,6,7,8,9,10],[20,21,22,23,24]),(12,[],[13,16,17,18,20,21,22,23,24]),(13,[12],[16,17,18,20,21,22,23,24]),(14,[],[15,16,17,18,20,21,22,23,24]),(15,[14],[16,17,18,20,21,22,23,24]),(16,[12,13,14,15],[17,18,20,21,22,23,24]),(17,[12,13,14,15,16],[18,20,21,22,23,24]),(18,[12,13,14,15,16,17],[20,21,22,23,24]),(19,[],[20,21,22,23,24]),(20,[2,3,4,5,6,7,8,9,10,11,12,13,14,15,16,17,18,19],[21,22,23,24]),(21,[2,3,4,5,6,7,8,9,10,11,12,13,14,15,16,17,18,19,20],[22,23,24]),(22,[0,1,2,3,4,5,6,7,8,9,10,11,12,13,14,15,16,17,18,19,20,21],[23,24]),(23,[0,1,2,3,4,5,6,7,8,9,10,11,12,13,14,15,16,17,18,19,20,21,22],[24]),(24,[0,1,2,3,4,5,6,7,8,9,10,11,12,13,14,15,16,17,18,19,20,21,22,23],[])] rfl (by kernel_rfl) (by kernel_rfl) (Zo (by simp)) (fun D=>⟨?_,?_,?_,?_,?_,?_,?_,?_,?_,?_,?_,?_,?_,?_,?_,?_,?_,?_,?_,?_,?_,?_,?_,?_,?_,trivial⟩) ?_)
  all_goals try(intro h0 h1 h2;simp only[allM]at h1 h2)
  case refine_4=>refine Qk.evZ [⟨true,.v (.one (.c (sC NK))),none⟩] rfl (by simp[h0,h1,h2];first|exact⟨rfl,Iff.rfl⟩|exact⟨rfl,trivial⟩|rfl) (by first|exact cn _|simpa using cn _) ?_;exact Zo (by simp[h0,h1,h2])
  case refine_22=>refine Qk.evZ [] rfl (by simp[h0,h1,h2,XG,Qp,XW,cellsOf,WG,WE];rfl) trivial ?_;exact le_trans (XL 81 (by simp[h0,h1,h2];exact⟨rfl,rfl,rfl⟩)) (Zo (by simp[h0,h1,h2,HS.frz,X0R,RV.frz,TV.frz,CV.frz,Ob.frz]))
  all_goals try(refine Qk.evZ [] rfl (by simp[h0,h1,h2,hroom,hw',hcat,hNM,XG,Qp,XW,cellsOf,WG,WE,X0O,WT,Zm,Wt];rfl) trivial ?_;exact Zo (by simp[h0,h1,h2]))
  refine Q6 (s':=⟨⟨89,none⟩,[(2,.v (.one (.at_ 2 0))),(4,.v (.one (.at_ 4 0))),(6,.v (.one (.at_ 6 0))),(7,.v (.one (.at_ 7 0))),(23,.v (lI at_)),(24,.v (li at_.length)),(25,.v (li y))],[(2,.box [.c (.sl 5 (Xr vars)),.c (.sl 6 (Xu hats)),.c (.sl 10 (Xf body))]),(4,.box [.c (.lit XR),.c (.lit XR),.c (.lit XR)]),(6,.box [.c (.sl 5 (Xr vars)),.own 1001,.own 1002]),(7,.box [.c (iC k)]),(1001,.row 94 6 (Xu (HX y)++[[sC NM,iC wl,iC wh,iC uo,iC un,.sl 3 (Xg uk)]])),(1002,.row 63 10 W)]⟩) ?_ ?_
  .exact QJ (fun n=>if n=1001 then 82 else n) [] rfl (by simp) (by simp) (by simp)
  refine X1 ?_;exact Xj (y+1) hy1 (hl:=by rw[hHe,hK1];exact le_trans (ZH (rows':=Xf (BD (y+1))) 1002 rfl hnl) (QJ (fun n=>n) [] rfl (by simp[upS,Ql,rwO]) (by simp[upS,rwO]) (by simp[upS])))
 obtain rfl:y=at_.length:=by omega
 clear hBg hBn hHT hHl hvl halg hA hA2 h6 hy csub hK1 hK2 hHl2;obtain⟨HZ,hHZ⟩:∃x,HX at_.length=x:=⟨_,rfl⟩;obtain⟨BZ,hBZ⟩:∃x,BD at_.length=x:=⟨_,rfl⟩;rw[hHZ,hBZ]at hk;rw[hHZ,hBZ];clear hHZ hBZ;refine(Xd ?_);refine Q6 (XL 1001 rfl) ?_;refine Q6 (XL 1002 rfl) ?_;refine X0<|(Xa hk ?_);exact Xn ⟨.inr rfl,_,le_refl _,⟨⟨_,by simp;rfl,by simp[Xl]⟩,by simp,fun h=>by cases h⟩⟩
theorem X4r:∀a b:List Ht,XN (a++b)=XN a+XN b
 |[],b=>by simp[XN]
 |s::a,b=>by simp[XN,X4r a b,Df]
theorem X4c {nm:List Ht->ByteArray} {T:Nat->St->Tm} {vars:List Vr} {body:List St} {B:Nat}:∀(l:List Nat) (hs:List Ht),(∀a∈l,(T a (body[a]?.getD (asg 0 (.mk 0 0 [])))).nodes<=B)->XN (QW nm T vars body hs l)<=XN hs+l.length*B
 |[],_,_=>by simp[QW]
 | a::l,hs,h=>by
   have ih:=X4c (nm:=nm) (T:=T) (vars:=vars) (body:=body) (B:=B) l (hs++[X1x nm T vars body hs a]) fun b hb=>h b (Nx _ hb);have h1:=h a List.mem_cons_self;simp only[QW,X4r,XN,X1x,List.length_cons,NJ,Nat.one_mul]at*;omega
theorem XaD (nh:Nat) (al:List Nat) (k:Nat) (s:St):(X3Q nh al k s).nodes<=s.nodes:=by
 obtain⟨d,c,v,n,t,a,b,bs⟩:=s;have:=X1p t;simp only[X3Q,St.nodes,Tm.nodes,Xs,Xe];omega
theorem X5f:∀(l:List St) (g:Nat->St->St),(∀k s,(g k s).nodes<=s.nodes)->Xe (l.mapIdx g)<=Xe l
 |[],_,_=>by simp
 | s::l,g,h=>by
   have h1:=h 0 s;have ih:=X5f l (fun i=>g (i+1)) fun k s=>h _ _;rw[List.mapIdx_cons];simp only[Xe];omega
theorem X9N:∀(l:List St) (g:Nat->St->St),(∀k s,X01 s=true->X01 (g k s)=true)->Qm l=true->Qm (l.mapIdx g)=true
 |[],_,_,_=>by simp[Qm]
 | s::l,g,h,hb=>by
   simp only[Qm,N4]at hb;rw[List.mapIdx_cons];simp only[Qm,h 0 s hb.1,X9N l (fun i=>g (i+1)) (fun k s=>h _ _) hb.2,Bool.and_self]
theorem X7d {nm:List Ht->ByteArray} {st:List Tm->Vr->Tm->Tm×Tm} {f:Fl} {al:List Nat} (hb:Qm f.body=true) (ha:AtOK f al) (hl:al.length<=12)
  (hT:∀a s,f.body[a]? =some s->(otG st f.vars f.body a s).nodes<=1000000):
  (QM nm (otG st f.vars f.body) f al).hats.length=f.hats.length+al.length/\Xe (QM nm (otG st f.vars f.body) f al).body+XN (QM nm (otG st f.vars f.body) f al).hats<=Xe f.body+XN f.hats+12000000/\Qm (QM nm (otG st f.vars f.body) f al).body=true:=by
 have h1:=X4c (nm:=nm) (T:=otG st f.vars f.body) (vars:=f.vars) (body:=f.body) (B:=1000000) al f.hats fun a hm=>by
  obtain⟨s,h1,_⟩:=ha.get a hm;rw[h1,Option.getD_some];exact hT a s h1
 have h2:Xe (WR f.hats.length al al.length f.body)<=Xe f.body:=X5f f.body _ fun k s=>by
  split
  .exact XaD _ _ _ _
  exact ND _
 have h3:al.length*1000000<=12*1000000:=NI _ hl;refine⟨X26 al f.hats,?_,X9N f.body _ (fun k s h=>?_) hb⟩
 .simp only[QM];omega
 split
 .simp[X3Q,X01,Qm]
 exact h
theorem X5m {f:Fl} {al:List Nat} (hn:Xe f.body<=1000) (hb:Qm f.body=true) (ha:AtOK f al) (hl:al.length<=12):
  (QM nmH (otG (stP f.vars) f.vars f.body) f al).hats.length=f.hats.length+al.length/\Xe (QM nmH (otG (stP f.vars) f.vars f.body) f al).body+XN (QM nmH (otG (stP f.vars) f.vars f.body) f al).hats<=Xe f.body+XN f.hats+12000000/\Qm (QM nmH (otG (stP f.vars) f.vars f.body) f al).body=true:=
 X7d (nm:=nmH) (st:=stP f.vars) hb ha hl fun a s hs=>X9B f.vars _ (X0V (st:=stP f.vars) (B:=1030) (fun vl w t=>X3r f.vars vl w t) (by omega) f.vars f.body a) (by have:=Q2 (N3 hs);omega)
theorem Xac {f:Fl} {al:List Nat} (hb:Qm f.body=true) (ha:AtOK f al) (hl:al.length<=12):
  (QM nmH (otG (stQ f.vars) f.vars f.body) f al).hats.length=f.hats.length+al.length/\Xe (QM nmH (otG (stQ f.vars) f.vars f.body) f al).body+XN (QM nmH (otG (stQ f.vars) f.vars f.body) f al).hats<=Xe f.body+XN f.hats+12000000/\Qm (QM nmH (otG (stQ f.vars) f.vars f.body) f al).body=true:=
 X7d (nm:=nmH) (st:=stQ f.vars) hb ha hl fun a s hs=>Dj (X78 _) (by omega)
theorem XaS (a:Obs) (ha:a.outs.length<=1000000000) (d:Nat):Con Tryz.prog 22 true [aO a,aO a] (.v (lb true)) none d:=by
 have cq:=X9z a.outs ha;obtain⟨ao,at_⟩:=a;simp only at cq;clear ha;refine X2 Tryz.func22 ?_;simp only[Tryz.f22];simp only[aO];refine X4 ?_;refine X0<|(Xa cq ?_);exact Qd
set_option maxHeartbeats 16000000 in
theorem X7O (f:Fl) (at_:List Int) (d:Nat):Con Tryz.prog 4 true [aF f,lI at_] (.v (lb true)) none d:=by
 have ck:=Xb6;have cf:=fit_con f;obtain⟨FW,hFW⟩:∃x,fitB f 16 4 4=x:=⟨_,rfl⟩;rw[hFW]at cf;have hin:FW=true->Fit f 16 4 4:=fun h=>fit_in (hFW.trans h);clear hFW;refine X2 Tryz.func4 ?_;simp only[Tryz.f4];simp only[aF,Fl.enc,Na,Nb]at cf⊢;refine X4 ?_;refine X0<|X0<|(Xa ck ?_);refine(XM (fun h2=>?_) fun h2=>?_)
 .exact absurd h2 (by simp)
 cases FW
 .refine X0<|X0<|(Xa cf ?_);refine(XM (fun h6=>?_) fun h6=>?_)
  .exact X7
  exact absurd h6 (by simp)
 refine X0<|X0<|(Xa cf ?_);refine(XM (fun h6=>?_) fun h6=>?_)
 .exact X7
 have hla:at_.length<=12:=by omega
 have hF:=hin rfl;clear hin cf ck h2 h6;have hhv:=hF.hv;have hhh:=hF.hh;have hhn:=hF.hn;have hbnd:=hF.hb;have Zf:=hF.code;have hok:=@at_ok f at_;have hall:(at_.map Int.toNat).length=at_.length:=by simp
 have ce:=X8j f at_ hla (by omega) hhh (by omega) hbnd (fun _ h5=>by
  obtain⟨h1,h2,h3⟩:=X5m (f:=f) (al:=at_.map Int.toNat) (by omega) hbnd (hok h5).1 (by omega)
  exact X3A _ (by show f.vars.length<=1000000;omega) (by omega) (by omega) h3)
 have cgr:=fun h5=>X6T f at_ hla (by omega) hhh (by omega) Zf h5 (by
  obtain⟨h1,h2,h3⟩:=Xac (f:=f) (al:=at_.map Int.toNat) hbnd (hok h5).1 (by omega)
  exact X8C _ (by show f.vars.length<=1000000;omega) (by omega) (by omega) h3)
 have hsame:=fun h5=>hat_same (nm:=nmH) Zf (hok h5).1;have hPb:=fun h5=>X5m (f:=f) (al:=at_.map Int.toNat) (by omega) hbnd (hok h5).1 (by omega);have hrn:=fun h5 (i:Inp) hc hi=>hat_run (nm:=nmH) (f:=f) (al:=at_.map Int.toNat) (i:=i) hbnd Zf (hok h5).1 hc hi
 have hEq:htF f at_=if e5 f at_=0 then Z9 (QM nmH (otG (stP f.vars) f.vars f.body) f (at_.map Int.toNat))else(fl0,e5 f at_):=by
  unfold htF;rw[N9 Zf]
 have he5:e5 f at_=if Z5 at_=true then X4b (szL f.body) (cuL f.body 0) at_ else 10:=rfl;obtain⟨G,hG⟩:∃g,QM nmH (otG (stP f.vars) f.vars f.body) f (at_.map Int.toNat)=g:=⟨_,rfl⟩;have hGv:G.vars.length=f.vars.length:=by rw[<-hG];rfl
 rw[hG]at hEq hsame hPb hrn;obtain⟨E5,hE5⟩:∃x,e5 f at_=x:=⟨_,rfl⟩;rw[hE5]at hEq he5 hsame hPb hrn cgr;rw[hEq]at ce;have csz:=XaQ f.body (by omega);have ccu:=cutR_con f (by have:=XB f.body;omega);have cko:=fun x=>X2u (cuL f.body 0) x (by have:=X40 f.body 0;have:=XB f.body;omega);have cr:=X66 at_ (by omega);have ci:=X8w f hF.good (by omega) hF.s1 hF.s2 hF.s3;have hil:=insL_len hF.good hF.s1 hF.s2 hF.s3;have hiok:=fun i hi=>@ins_ok f.vars (XA Zf).2.1 i hi;have r1:=fun i=>X7o f i (by omega) (by omega) (by omega) hbnd;have hol:=fun i=>@outs_len f i hbnd;have hrun:XU G=0->E5=0->∀i∈insL f.vars,(ZO f i).2=0/\ZO G i=ZO f i:=fun hc h5 i hi=>hrn h5 i hc (hiok i hi)
 have hGq:XU G=0->E5=0->(∀i d,Con Tryz.prog 15 false [aF G,aI i] (.tup [aO (ZO G i).1,li (ZO G i).2]) none d)/\∀d,Con Tryz.prog 45 true [aF G,aF G] (.v (lb true)) none d:=fun hc h5=>by
  have hz:=(XA hc).1;simp only[W5,N4,N7]at hz;obtain⟨_,_,h3⟩:=hPb h5;exact⟨fun i=>X7o G i (by omega) (by omega) (by omega) h3,eqF_con G (by omega) (by omega) (by omega) h3⟩
 obtain⟨CL,hCL⟩:∃x,cuL f.body 0=x:=⟨_,rfl⟩;rw[hCL]at ccu cko he5;obtain⟨SZ,hSZ⟩:∃x,szL f.body=x:=⟨_,rfl⟩;rw[hSZ]at csz he5;obtain⟨L,hL⟩:∃x,insL f.vars=x:=⟨_,rfl⟩;rw[hL]at ci hil hrun;obtain⟨⟨⟨gv,gh,gb⟩,e⟩,hge⟩:∃x,(if E5=0 then Z9 G else(fl0,E5))=x:=⟨_,rfl⟩;rw[hge]at ce
 have cgr:E5=0->∀d,Con Tryz.prog 21 false [aF f,lI at_] (.tup [aF ⟨gv,gh,gb⟩,li e]) none d:=fun h5=>by
  have h:=cgr h5;rw[<-hsame h5]at h;rw[N9 h5]at hge;rw[hge]at h;exact h
 have cno:=X8n ⟨gv,gh,gb⟩;have hSZ9:SZ<=100000:=by rw[<-hSZ];have:=X0z f.body;omega
 clear hF hL hiok hsame hPb hrn hEq hG hE5 hok hCL hSZ hGv hall Zf;obtain⟨vars,hats,body⟩:=f;simp only[aF,Fl.enc,Na,Nb]at ce cgr ci r1 cno csz ccu;refine X0<|(Xa ce ?_);refine X4 ?_;refine(XY [1,2,5,6] (fun(z:Int)=>[(7,.v (li z))]) (fun(z:Int)=>[(2,.box [.c (.sl 5 (Xr vars)),.c (.sl 6 (Xu hats)),.c (.sl 10 (Xf body))]),(5,.box [.c (.sl 5 (Xr gv)),.c (.sl 6 (Xu gh)),.c (.sl 10 (Xf gb))])]) (fun(z:Int)=>(z=0/\X4b SZ CL at_=E5)\/(z≠0/\z=E5)) ?_ ?_)
 .refine X0<|(Xa cr ?_);refine(XM (fun h13=>?_) fun h13=>?_)
  .refine X1 ?_;exact Xv ((10:Int)) (.inr ⟨by decide,by rw[he5,N6 (by simpa using h13)]⟩)
  exact Xv ((0:Int)) (.inl ⟨rfl,by rw[he5,N9 (by simpa using h13)]⟩)
 rintro z0 hz0;simp only[LN,Nat.reduceBEq,Nat.reduceLT];clear cr he5 ce;refine X0<|X0<|X1 ?_;refine X3<|(Xb [1,2,5,6,36,37] (fun(p:Nat×Int)=>[(7,.v (li p.2)),(38,.v (li p.1))]) (fun(p:Nat×Int)=>[(2,.box [.c (.sl 5 (Xr vars)),.c (.sl 6 (Xu hats)),.c (.sl 10 (Xf body))]),(5,.box [.c (.sl 5 (Xr gv)),.c (.sl 6 (Xu gh)),.c (.sl 10 (Xf gb))])]) (fun(p:Nat×Int)=>p.1<=at_.length/\((p.2=0/\X4b SZ CL (at_.drop p.1)=E5)\/(p.2≠0/\p.2=E5))) (fun(p:Nat×Int)=>at_.length - p.1) (0,z0) ⟨Nc _,hz0⟩ ?_);rintro⟨k,z⟩ ⟨hk,hJ⟩;simp only[LN,Nat.reduceBEq,Nat.reduceLT];clear hz0;simp only at hk hJ;refine(XS (fun h20=>X6 ?_) fun h20=>?_)
 .have hlt:k<at_.length:=by omega
  obtain⟨i,hi,hd⟩:=Xw hlt;have hi':(Xk at_)[k]? =some [iC i]:=by rw[ZB,hi];rfl
  have hw1:=Xz hlt (by omega);have hk1:k+1<=at_.length:=hlt;have hms:at_.length - (k+1)<at_.length - k:=by omega
  have cko:=cko i;rw[hd]at hJ;simp only[X4b]at hJ;clear hlt h20 hi hd cgr hrun hge hGq r1 hol ci cno;refine X0<|X3<|X0<|X1 ?_;refine X3<|(Xc (fun h23=>X6 ?_) fun h23=>?_)
  .have hz1:z≠0:=by simpa using h23
   have hze:=(hJ.resolve_left fun h=>hz1 h.1).2;clear hJ h23;refine X1 ?_;exact Xj ((k+1,z)) (⟨hk1,.inr ⟨hz1,hze⟩⟩) (hm:=hms)
  have hz1:z=0:=by simpa using h23
  subst hz1;have hJ:=(hJ.resolve_right fun h=>h.1 rfl).2;clear h23;by_cases hneg:i<0
  .refine X0<|(WI [none] (by simp[*];first|exact⟨rfl,trivial⟩|exact⟨rfl,Iff.rfl⟩|rfl) ?_ ?_)
   .trivial
   refine(QR (fun h27=>?_) fun h27=>?_)
   .rw[N9 (.inl hneg)]at hJ;refine X1 ?_;refine X1 ?_;exact Xj ((k+1,3)) (⟨hk1,(.inr ⟨by simp,hJ⟩)⟩) (hm:=hms)
   exact absurd h27 (by simp[hneg])
  refine X0<|(Xa csz ?_);refine(QR (fun h27=>?_) fun h27=>?_)
  .have h27':(SZ:Int)<=i:=by simpa[hneg]using h27
   rw[N9 (.inr h27')]at hJ;refine X1 ?_;refine X1 ?_;exact Xj ((k+1,3)) (⟨hk1,(.inr ⟨by simp,hJ⟩)⟩) (hm:=hms)
  have h27':¬(SZ:Int)<=i:=by simpa[hneg]using h27
  rw[N6 (by omega)]at hJ;obtain⟨B,hB⟩:∃B,decide (0<=X21 CL i 0)=B:=⟨_,rfl⟩;rw[hB]at cko;clear h27;refine X0<|(X7r ccu cko ?_);refine(XM (fun h32=>?_) fun h32=>?_)
  .have hBf:B=false:=by simpa using h32
   rw[N6 (by rw[hBf]at hB;simpa using hB)]at hJ;refine X1 ?_;refine X1 ?_;exact Xj ((k+1,15)) (⟨hk1,(.inr ⟨by simp,hJ⟩)⟩) (hm:=hms)
  have hBt:B=true:=by simpa using h32
  rw[N9 (by rw[hBt]at hB;simpa using hB)]at hJ;refine X1 ?_;exact Xj ((k+1,0)) (⟨hk1,.inl ⟨rfl,hJ⟩⟩) (hm:=hms)
 have hkl:k=at_.length:=by omega
 have hzE:z=E5:=by
  rcases hJ with⟨h1,h2⟩|⟨_,h2⟩
  .rw[hkl,Nj]at h2;rw[h1];exact h2
  exact h2
 subst hzE;clear hJ h20 cko csz ccu hkl hk;refine(Xd ?_);refine X0<|(X8 (fun h39=>?_) fun h39=>?_)
 .rw[N6 h39]at hge;simp only[Prod.mk.injEq]at hge;obtain⟨hg1,hg2⟩:=hge;have hno:X7U ⟨gv,gh,gb⟩=true:=by rw[<-hg1];rfl
  rw[hno]at cno;subst hg2;refine X0<|(Xa cno ?_);exact Qd
 have hz0:z=0:=by simpa using h39
 subst hz0;rw[N9 rfl]at hge;have cgr:=cgr rfl;unfold Z9 at hge
 have hag:=X90 ⟨gv,gh,gb⟩ e (fun h d=>by
  by_cases hc:XU G=0
  .have hq:=(hGq hc rfl).2;rw[N9 hc]at hge;simp only[Prod.mk.injEq]at hge;rw[<-hge.1];exact hq d
  .rw[N6 hc]at hge;simp only[Prod.mk.injEq]at hge;omega) (fun h=>by
  by_cases hc:XU G=0
  .rw[N9 hc]at hge;simp only[Prod.mk.injEq]at hge;omega
  rw[N6 hc]at hge;simp only[Prod.mk.injEq]at hge;rw[<-hge.1]
  rfl)
 simp only[aF,Fl.enc,Na,Nb]at hag cgr;refine X0<|(Xa cgr ?_);refine X0<|X0<|(Xa hag ?_);refine(XM (fun h44=>?_) fun h44=>?_)
 .exact absurd h44 (by simp)
 refine X0<|(X8 (fun h48=>?_) fun h48=>?_)
 .exact X7
 have he:e=0:=by simpa using h48
 subst he
 have hc:XU G=0:=by
  refine Classical.byContradiction fun hn=>?_;rw[N6 hn]at hge;simp at hge
 have r2:=(hGq hc rfl).1;rw[N9 hc]at hge;simp only[Prod.mk.injEq,and_true]at hge;have hT:=hrun hc rfl;rw[hge]at r2 hT;clear hrun hge cgr hag cno hGq h48 h44 h39 hc;simp only[aF,Fl.enc,Na,Nb]at r2;refine X0<|X0<|(Xa ci ?_);refine X3<|(Xb [2,5,86,87] (fun(x:Nat)=>[(88,.v (li x))]) (fun(x:Nat)=>[(2,.box [.c (.sl 5 (Xr vars)),.c (.sl 6 (Xu hats)),.c (.sl 10 (Xf body))]),(5,.box [.c (.sl 5 (Xr gv)),.c (.sl 6 (Xu gh)),.c (.sl 10 (Xf gb))])]) (fun(x:Nat)=>x<=L.length) (fun(x:Nat)=>L.length - x) (0:Nat) (Nc _) ?_);rintro k hk;simp only[LN,Nat.reduceBEq,Nat.reduceLT];clear ci;refine(XS (fun h54=>X6 ?_) fun h54=>?_)
 .have hlt:k<L.length:=by omega
  obtain⟨⟨is,ip,ir⟩,he,hd⟩:=Xw hlt;have hw1:=Xz hlt (by omega);have hk1:k+1<=L.length:=hlt;have he':(Wy L)[k]? =some [.sl 1 (Xk is),.sl 1 (Xk ip),.sl 1 (Xk ir)]:=by rw[XaX,he];rfl
  obtain⟨hT1,hT2⟩:=hT _ (N3 he);have r1:=r1 ⟨is,ip,ir⟩;have r2:=r2 ⟨is,ip,ir⟩;have hol:=hol ⟨is,ip,ir⟩;rw[hT2]at r2;obtain⟨⟨⟨O,t⟩,c⟩,hR⟩:∃x,ZO ⟨vars,hats,body⟩ ⟨is,ip,ir⟩=x:=⟨_,rfl⟩;rw[hR]at r1 r2 hol hT1;have csm:=XaS ⟨O,t⟩ hol;simp only at r1 r2 hol hT1;subst hT1;simp only[aI,aO]at r1 r2 csm;clear hlt h54 hT hT2 hR hd he;refine X0<|X3<|X0<|X1 ?_;refine X0<|(Xa r1 ?_);refine X0<|(Xa r2 ?_);refine X0<|(Xa csm ?_);refine(XM (fun h59=>?_) fun h59=>?_)
  .exact absurd h59 (by simp)
  refine X1 ?_;exact Xj (k+1) (hk1)
 refine(Xd ?_);exact X7
end Go.Proofs.YtdccocolnaklkaaGreatDoor
