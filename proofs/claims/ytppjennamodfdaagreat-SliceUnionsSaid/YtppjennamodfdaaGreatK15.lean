/- Part 15: contracts of functions of the program and of the reference, and plain facts about what they compute; used by the proof of the claimed statement. Conditions: as each theorem states. -/
import Derived.Test.YtppjennamodfdaaGreatK14
import Derived.Test.YtppjennamodfdaaGreatK11
import Derived.Test.YtppjennamodfdaaGreatHmZM
set_option linter.unusedSimpArgs false
set_option linter.unusedVariables false
set_option linter.unnecessarySimpa false
set_option maxRecDepth 100000
set_option maxHeartbeats 2000000
namespace Go.Proofs.YtppjennamodfdaaGreat
open Go Go.Hl
attribute [simp] Ob.flat
theorem X5A (l:List Int) (hl:l.length≤1000000000) (d:Nat) (hd:d<1000000):Con Tryz.prog 34 false [lI l] (.v (.one (.own d))) (some (.row 3 1 (Xe l))) d:=by
 have hroom:Qq l.length 8:=⟨by unfold maxLen;omega,by omega⟩;cases l with
 | nil=>
   refine X81 ?_ ?_
   · refine X5 Tryz.func34 ?_;simp only[Tryz.f34];refine X3 ?_;refine X1<|X1<|X2 ?_;refine(Xa rfl (fun h2=>?_) fun h2=>?_)
     · (try simp only[BN]at h2);refine X3 ?_;exact XF ⟨.inr rfl,_,le_nameN 2 d 3 1 rfl (by decide) hd,⟨⟨_,by simp;rfl,by simp[XD]⟩,by simp,fun h=>by cases h⟩⟩
     exact absurd h2 (by simp)
   intro a cap;refine X5 Tryz.func34 ?_;simp only[Tryz.f34];refine X3 ?_;refine X1<|X1<|X2 ?_;refine(Xa rfl (fun h2=>?_) fun h2=>?_)
   · exact absurd h2 (by simp)
   (try simp only[BN]at h2);refine XC (Xax 0 1 rfl) ?_;refine X3 ?_;exact XF ⟨.inr rfl,_,X33 2 7 d rfl rfl hd,⟨⟨_,by simp;rfl,by simp[XD]⟩,by simp,fun h=>by cases h⟩⟩
 | cons v r=>
   refine X5 Tryz.func34 ?_;simp only[Tryz.f34];rw[List.length_cons]at hroom;refine X3 ?_;refine X1<|X1<|X2 ?_;refine(Xa rfl (fun h2=>?_) fun h2=>?_)
   · exact absurd h2 (by simp)
   (try simp only[BN]at h2);refine X3 ?_;exact XF ⟨.inr rfl,_,X33 2 7 d rfl rfl hd,⟨⟨_,by simp;rfl,by simp[XD]⟩,by simp,fun h=>by cases h⟩⟩
theorem X3w (d:Nat):Con Tryz.prog 36 false [lI []] (.v (lI [])) none d:=by
 refine X5 Tryz.func36 ?_;simp only[Tryz.f36];refine X3 ?_;refine X1<|X1<|X2 ?_;refine(Xa rfl (fun h2=>?_) fun h2=>?_)
 · (try simp only[BN]at h2);refine X3 ?_;exact Xc
 exact absurd h2 (by simp)
theorem in_con (l:List Int) (hl:l.length≤1000000000) (x:Int) (d:Nat):Con Tryz.prog 37 true [li x,.one (.c (.ptr [.sl 1 (Xe l)]))] (.v (lb (!decide (x∈l)))) none d:=by
 have ch:=X3x l x hl;obtain⟨G,hG⟩:∃y,decide (x∈l)=y:=⟨_,rfl⟩;rw[hG]at ch⊢;refine X5 Tryz.func37 ?_;simp only[Tryz.f37];refine X3 ?_;refine Xj [⟨true,.v (lb G),none⟩] ?_ ?_
 · first|exact ch _|exact trivial|simpa[*]using ch _
 exact Xc
theorem cuts {f:Fl} (h:Sm f) (h0:Q0 f=0):∀k:Nat,k<2→∃g L,([[CD.fn 12 []],[CD.fn 13 []]]:List (List CD))[k]? =some [.fn g []]∧Cut f (szL f.body) g L:=by
 intro k hk;obtain rfl|rfl:k=0∨k=1:=by omega
 · exact⟨_,_,rfl,XaG h h0⟩
 exact⟨_,_,rfl,cut_fw h h0⟩
structure Un (f:Fl) (g:FuncId) (A B X Y Z:List Int):Prop where
 cX:∀d,Con Tryz.prog g false [aF f,lI A] (.tup [lI X,li 0]) none d
 cY:∀d,Con Tryz.prog g false [aF f,lI B] (.tup [lI Y,li 0]) none d
 cZ:∀d,Con Tryz.prog g false [aF f,.one (.c (.sl 1 (Xe A++Xe B)))] (.tup [lI Z,li 0]) none d
 cW:∀d,Con Tryz.prog g false [aF f,lI X] (.tup [lI X,li 0]) none d
 un:Lib.compact ((X++Y).mergeSort fun x y=>decide (x≤y))=Z
 has:A.any (fun s=> !decide (s∈X))=false
 lX:X.length≤1000
 lY:Y.length≤1000
 lZ:Z.length≤1000
theorem un_mk {f:Fl} {n:Nat} {g:FuncId} {L:List (List Nat)} (h:Cut f n g L) (hn:n≤1000) {A B:List Int} (hA:okQ n A) (hB:okQ n B) (lA:A.length≤40) (lB:B.length≤40):∃X Y Z,Un f g A B X Y Z:=by
 have b1:=X6t n L A;have b2:=X6t n L B;have b3:=X6t n L (A++B);refine⟨_,_,_,h.con A (by omega) hA,h.con B (by omega) hB,fun d=>by rw[←XcD];exact h.con (A++B) (by rw[List.length_append];omega) (hA.app hB) d,fun d=>?_,sl_union h.lk hA hB,?_,by omega,by omega,by omega⟩
 · have:=h.con (toI (slF n L A)) (by omega) (X4w A) d
   rwa [X9q h.lk hA]at this
 rw[List.any_eq_false];intro s hs;simp only[Bool.not_eq_true',Bool.not_eq_false,decide_eq_true_eq,Bool.not_eq_true];simpa using sl_has h.lk hA hs
set_option maxHeartbeats 16000000 in
theorem XaY (f:Fl) (a b:List Int) (d:Nat):Con Tryz.prog 9 true [aF f,lI a,lI b] (.v (lb true)) none d:=by
 have ck:=X77;have cf:=Xbx f [a,b] (by simp);obtain⟨FQ,hFQ⟩:∃x,fitQ f [a,b]=x:=⟨_,rfl⟩;rw[hFQ]at cf;have hsm:=fun h:FQ=true=>XdJ (X1V (hFQ.trans h)).1;have hla:=fun h:FQ=true=>(X1V (hFQ.trans h)).2 a (by simp);have hlb:=fun h:FQ=true=>(X1V (hFQ.trans h)).2 b (by simp);obtain⟨C,hC⟩:∃x,Q0 f=x:=⟨_,rfl⟩;have cc:=fun h:FQ=true=>Zl f (by have:=(hsm h).vars;omega) (by have:=(hsm h).hats;omega) (by have:=(hsm h).nodes;omega) (hsm h).bnd;have hnl:=fun h:FQ=true=>(by have:=(hsm h).nodes;have:=QV f.body;omega:szL f.body≤1000);have ca:=fun h:FQ=true=>X2A f (by have:=(hsm h).nodes;omega) a (by have:=hla h;omega);have cb:=fun h:FQ=true=>X2A f (by have:=(hsm h).nodes;omega) b (by have:=hlb h;omega);have hok1:=X7L (szL f.body) a;have hok2:=X7L (szL f.body) b;have hl1:=fun h:FQ=true=>Nat.le_trans (X3l (szL f.body) a) (hla h);have hl2:=fun h:FQ=true=>Nat.le_trans (X3l (szL f.body) b) (hlb h);obtain⟨A,hA⟩:∃x,X1u (szL f.body) a=x:=⟨_,rfl⟩;obtain⟨B,hB⟩:∃x,X1u (szL f.body) b=x:=⟨_,rfl⟩;rw[hA]at ca hok1 hl1;rw[hB]at cb hok2 hl2;obtain⟨R,hR⟩:∃R,([[CD.fn 12 []],[CD.fn 13 []]]:List (List CD))=R:=⟨_,rfl⟩;have hRl:R.length=2:=by rw[←hR];rfl
 have hun:FQ=true→C=0→∀k:Nat,k<2→∃g X Y Z,R[k]? =some [.fn g []]∧Un f g A B X Y Z:=by
  intro h h0 k hk;obtain⟨g,L,h1,h2⟩:=cuts (hsm h) (hC.trans h0) k hk;obtain⟨X,Y,Z,h3⟩:=un_mk h2 (hnl h) hok1 hok2 (hl1 h) (hl2 h);exact⟨g,X,Y,Z,by rw[←hR];exact h1,h3⟩
 have hlast:FQ=true→C=0→∃X:List Int,(∀d,Con Tryz.prog 12 false [aF f,lI A] (.tup [lI X,li 0]) none d)∧∀d,Con Tryz.prog 21 false [aF f,lI X] (.tup [lb true,li 0]) none d:=by
  intro h h0;have hc:=XaG (hsm h) (hC.trans h0);have hn:(Q4 f).length=szL f.body:=by rw[QN,XO]
  refine⟨_,hc.con A (by have:=hl1 h;omega) hok1,fun d=>?_⟩;have h1:=X6y f (hsm h) (toI (slF (szL f.body) (Q4 f) A)) (by have:=X6t (szL f.body) (Q4 f) A;have:=hnl h;omega) d;have h2:=clB_sl (hsm h) (q:=A) (by rw[hn];exact hok1);rw[X5Y,hn]at h2;rw[X7Z (hC.trans h0) (X4w A),h2]at h1;simpa using h1
 rw[hC]at cc;simp only[lQ,X3g,List.map_cons,List.map_nil]at cf;clear hC hsm hla hlb hok1 hok2 hA hB hFQ hnl;have wz:IntKind.i64.wrap 0=0:=by decide
 obtain⟨vars,hats,body⟩:=f;simp only[aF,Fl.enc,List.map_cons,List.map_nil]at cf cc ca cb hlast⊢;refine X5 Tryz.func9 ?_;simp only[Tryz.f9];refine X3 ?_;refine X1<|X1<|(Xm [⟨false,.v (lb true),none⟩] ?_ ?_)
 · first|exact ck _|exact trivial|simpa[*]using ck _
 refine(Xa rfl (fun h2=>?_) fun h2=>?_)
 · exact absurd h2 (by simp)
 (try simp only[BN]at h2);rcases FQ with _|_
 · refine X1<|X1<|(WP [some ⟨true,.v (lb false),none⟩,none] (by simp[*];first|exact⟨rfl,Iff.rfl⟩|exact⟨rfl,trivial⟩|rfl) ?_ ?_)
   · first|exact trivial|exact cf _|simpa using cf _
   refine(Xa rfl (fun h6=>?_) fun h6=>?_)
   · (try simp only[BN]at h6);refine X3 ?_;exact Xc
   exact absurd h6 (by simp)
 have cc:=cc rfl;have ca:=ca rfl;have cb:=cb rfl;have hl1:=hl1 rfl;have hl2:=hl2 rfl;have hun:=hun rfl;have hlast:=hlast rfl;refine X1<|X1<|(Xm [⟨true,.v (lb true),none⟩,⟨true,.v (li C),none⟩] ?_ ?_)
 · first|exact⟨cf _,cc _⟩|exact trivial|(repeat' first|exact trivial|exact cf _|exact cc _|apply And.intro)
 refine(Xa rfl (fun h6=>?_) fun h6=>?_)
 · (try simp only[BN]at h6);refine X3 ?_;exact Xc
 (try simp only[BN]at h6);have hz:C=0:=by simpa using h6
 subst hz;have hun:=hun rfl;obtain⟨X0,hb1,hb2⟩:=hlast rfl;clear h6 cc cf ck hlast;refine X1<|(XS [⟨false,.v (lI A),none⟩,⟨false,.v (lI B),none⟩] (by kernel_rfl) (by kernel_rfl) (by rfl) (by simp[*];first|exact⟨rfl,Iff.rfl⟩|exact⟨rfl,trivial⟩|rfl) ?_ ?_)
 · first|exact⟨ca _,cb _⟩|exact trivial|(repeat' first|exact trivial|exact ca _|exact cb _|apply And.intro)
 refine X1<|X1<|(XR ?_);refine RunsN.fns rfl rfl (by rfl) (by rfl) (by simp[evA,fnx,We,cellsOf,Qv,CV.cell,CD.cell];exact⟨rfl,rfl⟩) ?_;refine RunsN.doneE [] (by simp[*];rfl) trivial ?_;refine X4<|(Xf [1,2,3,41,42] (fun(k:Nat)=>[(43,.v (li k))]) (fun k=>[(3,.box [.c (.sl 5 (Xv vars)),.c (.sl 6 (Xu hats)),.c (.sl 10 (X9 body))]),(41,.row 32 1 R)]) (fun k=>k≤2) (fun k=>2 - k) (0:Nat) (Nat.zero_le _) ?_ ?_)
 · exact X6 (fun n=>n) []
 rintro k hk;simp only[upS,X8,Xw]
 try simp only[X8,KN,Nat.reduceBEq,if_true,if_false,ins,Nat.reduceLT]
 refine X3 ?_;refine X1<|(X7 rfl (fun h13=>Xb ?_) (fun h13=>?_))
 · (try simp only[BN]at h13);have hlt:k<2:=by first|omega|simpa using h13
   obtain⟨g,X,Y,Z,he,hu⟩:=hun k hlt;obtain⟨cX,cY,cZ,cW,un,has,lX,lY,lZ⟩:=hu;simp only[aF,Fl.enc,List.map_cons,List.map_nil]at cX cY cZ cW;have hw1:IntKind.i64.wrap ((k:Int)+1)=(k:Int)+1:=Xd (by omega) (by omega);have hk1:k+1≤2:=hlt;have cl1:=X5A A (by omega) 65 (by decide);have cl2:=X5A X (by omega) 85 (by decide);have e1:=X0H X X (by omega) (by omega);have e2:=X0H Z Z (by omega) (by omega);rw[decide_eq_true rfl]at e1 e2;have cI:=conI_con A 37 [.ptr [.sl 1 (Xe X)]] (fun s=> !decide (s∈X)) (by omega) (fun s _ d=>in_con X (by omega) s d);rw[has]at cI;have hroom1:Qq (A.length+B.length) 8:=XB (by omega) (by decide);have hroom2:Qq (X.length+Y.length) 8:=XB (by omega) (by decide);clear hlt h13 hun has;refine X1<|X4<|X1<|X2 ?_;refine Xj [⟨false,.tup [lI X,li 0],none⟩] ?_ ?_
   · first|exact cX _|exact trivial|simpa[*]using cX _
   refine Xj [⟨false,.tup [lI Y,li 0],none⟩] ?_ ?_
   · first|exact cY _|exact trivial|simpa[*]using cY _
   refine X1<|(XcE [(3,3)] 6 67 [⟨false,.v (.one (.own 65)),some (.row 3 1 (Xe A))⟩] [⟨false,.tup [lI Z,li 0],none⟩] (by kernel_rfl) (by kernel_rfl) (by kernel_rfl) (by rfl) (by simp[*,X4d,X5a,Qy];first|exact⟨rfl,Iff.rfl⟩|exact⟨rfl,trivial⟩|rfl) ?_ (by rfl) (by simp[*,X4d,X5a,Qy];first|exact⟨rfl,Iff.rfl⟩|exact⟨rfl,trivial⟩|rfl) ?_ ?_)
   · first|exact cl1|exact trivial|simpa using cl1
   · first|exact cZ _|exact trivial|simpa using cZ _
   refine X1<|X1<|X2 ?_;refine(Xa rfl (fun h19=>?_) fun h19=>?_)
   · exact absurd h19 (by simp)
   (try simp only[BN]at h19);refine Xj [⟨false,.tup [lI X,li 0],none⟩] ?_ ?_
   · first|exact cW _|exact trivial|simpa[*]using cW _
   refine Xj [⟨false,.v (.one (.own 85)),some (.row 3 1 (Xe X))⟩] ?_ ?_
   · first|exact cl2|exact trivial|simpa[*]using cl2
   rcases Nat.eq_zero_or_pos (X.length+Y.length)with hz|hz
   · obtain rfl:X=[]:=List.eq_nil_of_length_eq_zero (by omega);obtain rfl:Y=[]:=List.eq_nil_of_length_eq_zero (by omega);have hZ:Z=[]:=by rw[←un];simp[Lib.compact,Lib.compactUpTo]
     subst hZ;clear un;refine XC (XJ 87 rfl) ?_;refine Xj [⟨true,.tup [],none⟩] ?_ ?_
     · first|exact X0X _|exact trivial|simpa[*]using X0X _
     refine Xj [⟨true,.v (lb true),none⟩,⟨false,.v (lI []),none⟩,⟨true,.v (lb true),none⟩,⟨true,.v (lb false),none⟩] ?_ ?_
     · first|exact⟨e1 _,X3w _,e2 _,cI _⟩|exact trivial|(repeat' first|exact trivial|exact e1 _|exact X3w _|exact e2 _|exact cI _|apply And.intro)
     refine(Xa rfl (fun h26=>?_) fun h26=>?_)
     · exact absurd h26 (by simp)
     (try simp only[BN]at h26);refine X2 ?_;exact⟨k+1,hk1,by omega,X6 (fun n=>n) []⟩
   have cs1:=X40 (X++Y) (by rw[List.length_append];omega) (by rw[List.length_append];omega);have hsl:((X++Y).mergeSort fun x y=>decide (x≤y)).length=X.length+Y.length:=by rw[List.length_mergeSort,List.length_append]
   have cs2:=X8L ((X++Y).mergeSort fun x y=>decide (x≤y)) (by omega) (by omega);rw[un]at cs2;obtain⟨S,hS⟩:∃x,((X++Y).mergeSort fun x y=>decide (x≤y))=x:=⟨_,rfl⟩;rw[hS]at cs1 cs2;rw[show Xe (X++Y)=Xe X++Xe Y by simp[Xe]]at cs1;clear hS hsl un;refine X1<|(XR ?_);refine RunsN.cutE 1 [] (by simp[*];rfl) trivial (le_refl _) ?_;refine RunsN.rowA (by simp[X9L,X56,hz];first|exact⟨hz,rfl,rfl⟩|exact⟨rfl,rfl⟩|exact⟨hz,rfl⟩) cs1 ?_;refine RunsN.doneE [] (by simp;rfl) trivial ?_;clear cs1;refine X1<|(XR ?_);refine RunsN.cutE 10 [⟨true,.v (lb true),none⟩] (by simp[*];first|exact⟨rfl,Iff.rfl⟩|exact⟨rfl,trivial⟩|rfl) (by first|exact e1 _|simpa using e1 _) (le_gdT 99 rfl) ?_;refine RunsN.callG (fun n=>if n=900001 then 87 else n) (fun n=>if n=900001 then 1006 else n) (by simp[QJ]) (by simp;rfl) (by refine WB ?_ ?_ ?_ ?_ ?_<;>simp[rbB,WA,QI,CV.ren,Ob.ren,lkp,Qi]) cs2 (by rfl) ?_;refine RunsN.doneE [⟨true,.v (lb true),none⟩,⟨true,.v (lb false),none⟩] (by simp[*,Qi,QW,del,ins,CV.ren,Ob.ren];first|exact⟨rfl,Iff.rfl⟩|exact⟨rfl,trivial⟩|rfl) (by first|exact⟨e2 _,cI _⟩|simpa using⟨e2 _,cI _⟩) ?_;refine(Xa rfl (fun h26=>?_) fun h26=>?_)
   · exact absurd h26 (by simp)
   (try simp only[BN]at h26);refine X2 ?_;exact⟨k+1,hk1,by omega,X6 (fun n=>n) []⟩
 (try simp only[BN]at h13);have hk2:k=2:=by first|omega|(have:¬k<2:=by simpa using h13;omega)
 clear h13 hun;refine(Xi ?_);refine Xj [⟨false,.tup [lI X0,li 0],none⟩] ?_ ?_
 · first|exact hb1 _|exact trivial|simpa[*]using hb1 _
 refine Xj [⟨false,.tup [lb true,li 0],none⟩] ?_ ?_
 · first|exact hb2 _|exact trivial|simpa[*]using hb2 _
 refine X3 ?_;exact Xc
end Go.Proofs.YtppjennamodfdaaGreat
