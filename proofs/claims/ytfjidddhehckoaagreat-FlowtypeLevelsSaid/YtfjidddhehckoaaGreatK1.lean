/- Part 1: contracts of functions of the program and of the reference, and plain facts about what they compute; used by the proof of the claimed statement. Conditions: as each theorem states. -/
import Derived.Test.YtfjidddhehckoaaGreatProg
import Derived.Test.YtfjidddhehckoaaGreatHlZ
import Derived.KernelRfl
set_option linter.unusedSimpArgs false
set_option linter.unusedVariables false
set_option linter.unnecessarySimpa false
set_option maxRecDepth 100000
set_option maxHeartbeats 2000000
namespace Go.Proofs.YtfjidddhehckoaaGreat
open Go Go.Hl
@[simp] theorem ty3:tyOf Tryz.prog 3=some ⟨1,8,false,[.int .i64 0],.other⟩:=by kernel_rfl
@[simp] theorem pf3:ptrT Tryz.prog 3=false:=by kernel_rfl
@[simp] theorem sf3:sliceT Tryz.prog 3=false:=by kernel_rfl
@[simp] theorem ty4:tyOf Tryz.prog 4=some ⟨1,1,false,[.bool false],.other⟩:=by kernel_rfl
@[simp] theorem bt4:boolT Tryz.prog 4=true:=by kernel_rfl
@[simp] theorem pf4:ptrT Tryz.prog 4=false:=by kernel_rfl
@[simp] theorem sf4:sliceT Tryz.prog 4=false:=by kernel_rfl
@[simp] theorem ty5:tyOf Tryz.prog 5=some ⟨1,1,false,[.int .u8 0],.other⟩:=by kernel_rfl
@[simp] theorem pf5:ptrT Tryz.prog 5=false:=by kernel_rfl
@[simp] theorem sf5:sliceT Tryz.prog 5=false:=by kernel_rfl
@[simp] theorem ty9:tyOf Tryz.prog 9=some ⟨1,16,false,[.string ⟨#[]⟩],.other⟩:=by kernel_rfl
@[simp] theorem st9:strT Tryz.prog 9=true:=by kernel_rfl
@[simp] theorem pf9:ptrT Tryz.prog 9=false:=by kernel_rfl
@[simp] theorem sf9:sliceT Tryz.prog 9=false:=by kernel_rfl
@[simp] theorem ty22:tyOf Tryz.prog 22=some ⟨1,24,false,[.slice none 0 0],.slice 88⟩:=by kernel_rfl
@[simp] theorem pf22:ptrT Tryz.prog 22=false:=by kernel_rfl
@[simp] theorem sl22:sliceT Tryz.prog 22=true:=by kernel_rfl
@[simp] theorem ty23:tyOf Tryz.prog 23=some ⟨1,24,false,[.slice none 0 0],.slice 111⟩:=by kernel_rfl
@[simp] theorem pf23:ptrT Tryz.prog 23=false:=by kernel_rfl
@[simp] theorem sl23:sliceT Tryz.prog 23=true:=by kernel_rfl
@[simp] theorem ty24:tyOf Tryz.prog 24=some ⟨1,24,false,[.slice none 0 0],.slice 65⟩:=by kernel_rfl
@[simp] theorem pf24:ptrT Tryz.prog 24=false:=by kernel_rfl
@[simp] theorem sl24:sliceT Tryz.prog 24=true:=by kernel_rfl
@[simp] theorem ty26:tyOf Tryz.prog 26=some ⟨3,72,true,[.slice none 0 0,.slice none 0 0,.slice none 0 0],.struct [(0,22),(1,23),(2,24)]⟩:=by kernel_rfl
@[simp] theorem pf26:ptrT Tryz.prog 26=false:=by kernel_rfl
@[simp] theorem sf26:sliceT Tryz.prog 26=false:=by kernel_rfl
@[simp] theorem ty27:tyOf Tryz.prog 27=some ⟨1,24,false,[.slice none 0 0],.slice 9⟩:=by kernel_rfl
@[simp] theorem pf27:ptrT Tryz.prog 27=false:=by kernel_rfl
@[simp] theorem sl27:sliceT Tryz.prog 27=true:=by kernel_rfl
@[simp] theorem ty28:tyOf Tryz.prog 28=some ⟨1,24,false,[.slice none 0 0],.slice 89⟩:=by kernel_rfl
@[simp] theorem pf28:ptrT Tryz.prog 28=false:=by kernel_rfl
@[simp] theorem sl28:sliceT Tryz.prog 28=true:=by kernel_rfl
@[simp] theorem ty29:tyOf Tryz.prog 29=some ⟨1,24,false,[.slice none 0 0],.slice 124⟩:=by kernel_rfl
@[simp] theorem pf29:ptrT Tryz.prog 29=false:=by kernel_rfl
@[simp] theorem sl29:sliceT Tryz.prog 29=true:=by kernel_rfl
@[simp] theorem ty31:tyOf Tryz.prog 31=some ⟨6,112,true,[.slice none 0 0,.slice none 0 0,.slice none 0 0,.slice none 0 0,.int .i64 0,.bool false],.struct [(0,27),(1,28),(2,29),(3,29),(4,3),(5,4)]⟩:=by kernel_rfl
@[simp] theorem pf31:ptrT Tryz.prog 31=false:=by kernel_rfl
@[simp] theorem sf31:sliceT Tryz.prog 31=false:=by kernel_rfl
@[simp] theorem ty32:tyOf Tryz.prog 32=some ⟨1,24,false,[.slice none 0 0],.slice 3⟩:=by kernel_rfl
@[simp] theorem pf32:ptrT Tryz.prog 32=false:=by kernel_rfl
@[simp] theorem sl32:sliceT Tryz.prog 32=true:=by kernel_rfl
@[simp] theorem ty34:tyOf Tryz.prog 34=some ⟨3,72,true,[.slice none 0 0,.slice none 0 0,.slice none 0 0],.struct [(0,32),(1,32),(2,32)]⟩:=by kernel_rfl
@[simp] theorem pf34:ptrT Tryz.prog 34=false:=by kernel_rfl
@[simp] theorem sf34:sliceT Tryz.prog 34=false:=by kernel_rfl
@[simp] theorem ty35:tyOf Tryz.prog 35=some ⟨6,144,true,[.slice none 0 0,.slice none 0 0,.slice none 0 0,.slice none 0 0,.slice none 0 0,.slice none 0 0],.array 2 34⟩:=by kernel_rfl
@[simp] theorem pf35:ptrT Tryz.prog 35=false:=by kernel_rfl
@[simp] theorem sf35:sliceT Tryz.prog 35=false:=by kernel_rfl
@[simp] theorem ty38:tyOf Tryz.prog 38=some ⟨1,8,false,[.int .i64 0],.other⟩:=by kernel_rfl
@[simp] theorem pf38:ptrT Tryz.prog 38=false:=by kernel_rfl
@[simp] theorem sf38:sliceT Tryz.prog 38=false:=by kernel_rfl
@[simp] theorem ty41:tyOf Tryz.prog 41=some ⟨4,64,true,[.bool false,.slice none 0 0,.int .i64 0,.slice none 0 0],.struct [(0,4),(1,32),(2,3),(3,32)]⟩:=by kernel_rfl
@[simp] theorem pf41:ptrT Tryz.prog 41=false:=by kernel_rfl
@[simp] theorem sf41:sliceT Tryz.prog 41=false:=by kernel_rfl
@[simp] theorem ty45:tyOf Tryz.prog 45=some ⟨3,56,true,[.slice none 0 0,.slice none 0 0,.int .i64 0],.struct [(0,32),(1,32),(2,3)]⟩:=by kernel_rfl
@[simp] theorem pf45:ptrT Tryz.prog 45=false:=by kernel_rfl
@[simp] theorem sf45:sliceT Tryz.prog 45=false:=by kernel_rfl
@[simp] theorem ty50:tyOf Tryz.prog 50=some ⟨1,24,false,[.slice none 0 0],.slice 55⟩:=by kernel_rfl
@[simp] theorem pf50:ptrT Tryz.prog 50=false:=by kernel_rfl
@[simp] theorem sl50:sliceT Tryz.prog 50=true:=by kernel_rfl
@[simp] theorem ty52:tyOf Tryz.prog 52=some ⟨2,48,true,[.slice none 0 0,.slice none 0 0],.struct [(0,27),(1,50)]⟩:=by kernel_rfl
@[simp] theorem pf52:ptrT Tryz.prog 52=false:=by kernel_rfl
@[simp] theorem sf52:sliceT Tryz.prog 52=false:=by kernel_rfl
@[simp] theorem ty55:tyOf Tryz.prog 55=some ⟨1,24,false,[.slice none 0 0],.slice 4⟩:=by kernel_rfl
@[simp] theorem pf55:ptrT Tryz.prog 55=false:=by kernel_rfl
@[simp] theorem sl55:sliceT Tryz.prog 55=true:=by kernel_rfl
@[simp] theorem ty59:tyOf Tryz.prog 59=some ⟨1,8,false,[.int .i64 0],.other⟩:=by kernel_rfl
@[simp] theorem pf59:ptrT Tryz.prog 59=false:=by kernel_rfl
@[simp] theorem sf59:sliceT Tryz.prog 59=false:=by kernel_rfl
@[simp] theorem ty60:tyOf Tryz.prog 60=some ⟨1,8,false,[.int .i64 0],.other⟩:=by kernel_rfl
@[simp] theorem pf60:ptrT Tryz.prog 60=false:=by kernel_rfl
@[simp] theorem sf60:sliceT Tryz.prog 60=false:=by kernel_rfl
@[simp] theorem ty61:tyOf Tryz.prog 61=some ⟨1,24,false,[.slice none 0 0],.slice 63⟩:=by kernel_rfl
@[simp] theorem pf61:ptrT Tryz.prog 61=false:=by kernel_rfl
@[simp] theorem sl61:sliceT Tryz.prog 61=true:=by kernel_rfl
@[simp] theorem ty63:tyOf Tryz.prog 63=some ⟨3,40,true,[.int .i64 0,.int .i64 0,.slice none 0 0],.struct [(0,60),(1,3),(2,61)]⟩:=by kernel_rfl
@[simp] theorem pf63:ptrT Tryz.prog 63=false:=by kernel_rfl
@[simp] theorem sf63:sliceT Tryz.prog 63=false:=by kernel_rfl
@[simp] theorem ty65:tyOf Tryz.prog 65=some ⟨10,144,true,[.int .i64 0,.int .i64 0,.int .i64 0,.int .i64 0,.int .i64 0,.int .i64 0,.slice none 0 0,.slice none 0 0,.slice none 0 0,.slice none 0 0],.struct [(0,59),(1,3),(2,3),(3,3),(4,63),(7,24),(8,24),(9,32)]⟩:=by kernel_rfl
@[simp] theorem pf65:ptrT Tryz.prog 65=false:=by kernel_rfl
@[simp] theorem sf65:sliceT Tryz.prog 65=false:=by kernel_rfl
@[simp] theorem ty71:tyOf Tryz.prog 71=some ⟨1,24,false,[.slice none 0 0],.slice 32⟩:=by kernel_rfl
@[simp] theorem pf71:ptrT Tryz.prog 71=false:=by kernel_rfl
@[simp] theorem sl71:sliceT Tryz.prog 71=true:=by kernel_rfl
@[simp] theorem ty84:tyOf Tryz.prog 84=some ⟨12,240,true,[.slice none 0 0,.slice none 0 0,.slice none 0 0,.slice none 0 0,.slice none 0 0,.int .i64 0,.slice none 0 0,.int .i64 0,.slice none 0 0,.slice none 0 0,.slice none 0 0,.int .i64 0],.struct [(0,26),(3,52),(5,3),(6,32),(7,3),(8,71),(9,32),(10,32),(11,3)]⟩:=by kernel_rfl
@[simp] theorem pf84:ptrT Tryz.prog 84=false:=by kernel_rfl
@[simp] theorem sf84:sliceT Tryz.prog 84=false:=by kernel_rfl
@[simp] theorem ty86:tyOf Tryz.prog 86=some ⟨1,8,false,[.int .i64 0],.other⟩:=by kernel_rfl
@[simp] theorem pf86:ptrT Tryz.prog 86=false:=by kernel_rfl
@[simp] theorem sf86:sliceT Tryz.prog 86=false:=by kernel_rfl
@[simp] theorem ty88:tyOf Tryz.prog 88=some ⟨5,48,true,[.string ⟨#[]⟩,.int .i64 0,.int .i64 0,.int .i64 0,.int .i64 0],.struct [(0,9),(1,86),(2,3),(3,3),(4,3)]⟩:=by kernel_rfl
@[simp] theorem pf88:ptrT Tryz.prog 88=false:=by kernel_rfl
@[simp] theorem sf88:sliceT Tryz.prog 88=false:=by kernel_rfl
@[simp] theorem ty89:tyOf Tryz.prog 89=some ⟨2,16,true,[.int .i64 0,.int .i64 0],.array 2 3⟩:=by kernel_rfl
@[simp] theorem pf89:ptrT Tryz.prog 89=false:=by kernel_rfl
@[simp] theorem sf89:sliceT Tryz.prog 89=false:=by kernel_rfl
@[simp] theorem ai89:arrI Tryz.prog 89=some (2,.i64):=by kernel_rfl
@[simp] theorem ty94:tyOf Tryz.prog 94=some ⟨1,8,false,[.pointer none],.other⟩:=by kernel_rfl
@[simp] theorem pt94:ptrT Tryz.prog 94=true:=by kernel_rfl
@[simp] theorem sf94:sliceT Tryz.prog 94=false:=by kernel_rfl
@[simp] theorem ty96:tyOf Tryz.prog 96=some ⟨9,136,true,[.pointer none,.slice none 0 0,.int .i64 0,.int .i64 0,.slice none 0 0,.int .i64 0,.bool false,.slice none 0 0,.slice none 0 0],.struct [(0,94),(1,32),(2,3),(3,3),(4,32),(5,3),(6,4),(7,71),(8,32)]⟩:=by kernel_rfl
@[simp] theorem pf96:ptrT Tryz.prog 96=false:=by kernel_rfl
@[simp] theorem sf96:sliceT Tryz.prog 96=false:=by kernel_rfl
@[simp] theorem ty111:tyOf Tryz.prog 111=some ⟨6,72,true,[.string ⟨#[]⟩,.int .i64 0,.int .i64 0,.int .i64 0,.int .i64 0,.slice none 0 0],.struct [(0,9),(1,3),(2,3),(3,63)]⟩:=by kernel_rfl
@[simp] theorem pf111:ptrT Tryz.prog 111=false:=by kernel_rfl
@[simp] theorem sf111:sliceT Tryz.prog 111=false:=by kernel_rfl
@[simp] theorem ty124:tyOf Tryz.prog 124=some ⟨2,24,true,[.string ⟨#[]⟩,.int .i64 0],.struct [(0,9),(1,3)]⟩:=by kernel_rfl
@[simp] theorem pf124:ptrT Tryz.prog 124=false:=by kernel_rfl
@[simp] theorem sf124:sliceT Tryz.prog 124=false:=by kernel_rfl
@[simp] theorem ty134:tyOf Tryz.prog 134=some ⟨1,8,false,[.map none],.other⟩:=by kernel_rfl
@[simp] theorem mt134:mapT Tryz.prog 134=some (.string,.int .i64 0):=by kernel_rfl
@[simp] theorem pf134:ptrT Tryz.prog 134=false:=by kernel_rfl
@[simp] theorem sf134:sliceT Tryz.prog 134=false:=by kernel_rfl
@[simp] theorem ty136:tyOf Tryz.prog 136=some ⟨5,104,true,[.slice none 0 0,.map none,.slice none 0 0,.slice none 0 0,.slice none 0 0],.struct [(0,27),(1,134),(2,50),(3,71),(4,71)]⟩:=by kernel_rfl
@[simp] theorem pf136:ptrT Tryz.prog 136=false:=by kernel_rfl
@[simp] theorem sf136:sliceT Tryz.prog 136=false:=by kernel_rfl
@[simp] theorem pf157:ptrT Tryz.prog 157=false:=by kernel_rfl
@[simp] theorem sf157:sliceT Tryz.prog 157=false:=by kernel_rfl
@[simp] theorem ty173:tyOf Tryz.prog 173=some ⟨3,24,true,[.int .i64 0,.int .i64 0,.int .i64 0],.struct [(0,3),(1,3),(2,3)]⟩:=by kernel_rfl
@[simp] theorem pf173:ptrT Tryz.prog 173=false:=by kernel_rfl
@[simp] theorem sf173:sliceT Tryz.prog 173=false:=by kernel_rfl
@[simp] theorem ty184:tyOf Tryz.prog 184=some ⟨1,8,false,[.int .i64 0],.other⟩:=by kernel_rfl
@[simp] theorem pf184:ptrT Tryz.prog 184=false:=by kernel_rfl
@[simp] theorem sf184:sliceT Tryz.prog 184=false:=by kernel_rfl
@[simp] theorem pf191:ptrT Tryz.prog 191=false:=by kernel_rfl
@[simp] theorem sf191:sliceT Tryz.prog 191=false:=by kernel_rfl
@[simp] theorem pf193:ptrT Tryz.prog 193=false:=by kernel_rfl
@[simp] theorem sf193:sliceT Tryz.prog 193=false:=by kernel_rfl
@[simp] theorem ty196:tyOf Tryz.prog 196=some ⟨2,16,true,[.int .i64 0,.bool false],.struct [(0,3),(1,4)]⟩:=by kernel_rfl
@[simp] theorem pf196:ptrT Tryz.prog 196=false:=by kernel_rfl
@[simp] theorem sf196:sliceT Tryz.prog 196=false:=by kernel_rfl
@[simp] theorem pf210:ptrT Tryz.prog 210=false:=by kernel_rfl
@[simp] theorem sf210:sliceT Tryz.prog 210=false:=by kernel_rfl
@[simp] theorem ty218:tyOf Tryz.prog 218=some ⟨1,24,false,[.slice none 0 0],.slice 86⟩:=by kernel_rfl
@[simp] theorem pf218:ptrT Tryz.prog 218=false:=by kernel_rfl
@[simp] theorem sl218:sliceT Tryz.prog 218=true:=by kernel_rfl
@[simp] theorem ty221:tyOf Tryz.prog 221=some ⟨1,24,false,[.slice none 0 0],.slice 24⟩:=by kernel_rfl
@[simp] theorem pf221:ptrT Tryz.prog 221=false:=by kernel_rfl
@[simp] theorem sl221:sliceT Tryz.prog 221=true:=by kernel_rfl
@[simp] theorem ty222:tyOf Tryz.prog 222=some ⟨1,8,false,[.map none],.other⟩:=by kernel_rfl
@[simp] theorem mt222:mapT Tryz.prog 222=some (.string,.bool false):=by kernel_rfl
@[simp] theorem pf222:ptrT Tryz.prog 222=false:=by kernel_rfl
@[simp] theorem sf222:sliceT Tryz.prog 222=false:=by kernel_rfl
@[simp] theorem ty234:tyOf Tryz.prog 234=some ⟨2,16,true,[.int .i64 0,.int .i64 0],.struct [(0,3),(1,3)]⟩:=by kernel_rfl
@[simp] theorem pf234:ptrT Tryz.prog 234=false:=by kernel_rfl
@[simp] theorem sf234:sliceT Tryz.prog 234=false:=by kernel_rfl
@[simp] theorem ty240:tyOf Tryz.prog 240=some ⟨1,24,false,[.slice none 0 0],.slice 234⟩:=by kernel_rfl
@[simp] theorem pf240:ptrT Tryz.prog 240=false:=by kernel_rfl
@[simp] theorem sl240:sliceT Tryz.prog 240=true:=by kernel_rfl
@[simp] theorem fsV:flatS Tryz.prog 88=some [false,true,true,true,true]:=by kernel_rfl
@[simp] theorem arV:arrI Tryz.prog 88=none:=by kernel_rfl
theorem wrap_in {n:Int} (h1:-9223372036854775808≤n) (h2:n≤9223372036854775807):IntKind.i64.wrap n=n:=IntWalk.i64_in n ⟨h1,h2⟩
inductive Tm where
 |mk (op n:Int) (kids:List Tm)
mutual
def Tm.enc:Tm→List CD
 | .mk o n ks=>[iC o,iC n,.sl 3 (encTs ks)]
def encTs:List Tm→List (List CD)
 |[]=>[]
 |t::l=>t.enc::encTs l
end
inductive St where
 |mk (do_ cost var n:Int) (term:Tm) (then_ else_:List St) (bounds:List Int)
def encIs (l:List Int):List (List CD):=l.map fun n=>[iC n]
mutual
def St.enc:St→List CD
 | .mk d c v n t a b bs=>[iC d,iC c,iC v,iC n]++t.enc++[.sl 10 (encSs a),.sl 10 (encSs b),.sl 1 (encIs bs)]
def encSs:List St→List (List CD)
 |[]=>[]
 |s::l=>s.enc::encSs l
end
structure Vr where
 name:ByteArray
 kind:Int
 low:Int
 high:Int
 init:Int
structure Ht where
 name:ByteArray
 low:Int
 high:Int
 term:Tm
structure Fl where
 vars:List Vr
 hats:List Ht
 body:List St
def Vr.enc (v:Vr):List CD:=[sC v.name,iC v.kind,iC v.low,iC v.high,iC v.init]
def Ht.enc (h:Ht):List CD:=[sC h.name,iC h.low,iC h.high]++h.term.enc
def encVs (l:List Vr):List (List CD):=l.map Vr.enc
def encHs (l:List Ht):List (List CD):=l.map Ht.enc
def Fl.enc (f:Fl):List CD:=[.sl 5 (encVs f.vars),.sl 6 (encHs f.hats),.sl 10 (encSs f.body)]
attribute [simp] Vr.enc Ht.enc Fl.enc Tm.enc St.enc
theorem encTs_map (l:List Tm):encTs l=l.map Tm.enc:=by
 induction l with
 |nil=>simp[encTs]
 |cons t l ih=>simp[encTs,ih]
theorem encSs_map (l:List St):encSs l=l.map St.enc:=by
 induction l with
 |nil=>simp[encSs]
 |cons t l ih=>simp[encSs,ih]
theorem Tm.ind {p:Tm→Prop} (h:∀o n ks,(∀t∈ks,p t)→p (.mk o n ks)):∀t,p t
 | .mk o n ks=>h o n ks fun t ht=>Tm.ind h t
theorem St.ind {p:St→Prop} (h:∀d c v n t a b bs,(∀s∈a,p s)→(∀s∈b,p s)→p (.mk d c v n t a b bs)):∀s,p s
 | .mk d c v n t a b bs=>h d c v n t a b bs (fun s hs=>St.ind h s) (fun s hs=>St.ind h s)
def Tm.op:Tm→Int| .mk o _ _=>o
def Tm.n:Tm→Int| .mk _ n _=>n
def Tm.kids:Tm→List Tm| .mk _ _ k=>k
def St.do_:St→Int| .mk d _ _ _ _ _ _ _=>d
def St.cost:St→Int| .mk _ c _ _ _ _ _ _=>c
def St.var:St→Int| .mk _ _ v _ _ _ _ _=>v
def St.n:St→Int| .mk _ _ _ n _ _ _ _=>n
def St.term:St→Tm| .mk _ _ _ _ t _ _ _=>t
def St.then_:St→List St| .mk _ _ _ _ _ a _ _=>a
def St.else_:St→List St| .mk _ _ _ _ _ _ b _=>b
def St.bounds:St→List Int| .mk _ _ _ _ _ _ _ bs=>bs
abbrev aT (t:Tm):TV:=.agg (t.enc.map .c)
abbrev aS (s:St):TV:=.agg (s.enc.map .c)
abbrev aV (v:Vr):TV:=.agg (v.enc.map .c)
abbrev aH (h:Ht):TV:=.agg (h.enc.map .c)
abbrev aF (f:Fl):TV:=.agg (f.enc.map .c)
abbrev lV (l:List Vr):TV:=.one (.c (.sl 5 (encVs l)))
abbrev lS (l:List St):TV:=.one (.c (.sl 10 (encSs l)))
abbrev lI (l:List Int):TV:=.one (.c (.sl 1 (encIs l)))
theorem get_encT {ks:List Tm} {i:Nat} {t:Tm} (h:ks[i]? =some t):(encTs ks)[i]? =some t.enc:=by rw[encTs_map,List.getElem?_map,h];rfl
theorem get_encS {ks:List St} {i:Nat} {t:St} (h:ks[i]? =some t):(encSs ks)[i]? =some t.enc:=by rw[encSs_map,List.getElem?_map,h];rfl
@[simp] theorem len_encT (ks:List Tm):(encTs ks).length=ks.length:=by rw[encTs_map,List.length_map]
@[simp] theorem len_encS (ks:List St):(encSs ks).length=ks.length:=by rw[encSs_map,List.length_map]
@[simp] theorem len_encV (ks:List Vr):(encVs ks).length=ks.length:=by simp[encVs]
@[simp] theorem len_encH (ks:List Ht):(encHs ks).length=ks.length:=by simp[encHs]
@[simp] theorem len_encI (ks:List Int):(encIs ks).length=ks.length:=by simp[encIs]
@[simp] theorem get_encV (ks:List Vr) (i:Nat):(encVs ks)[i]? =ks[i]?.map Vr.enc:=by simp[encVs]
@[simp] theorem get_encH (ks:List Ht) (i:Nat):(encHs ks)[i]? =ks[i]?.map Ht.enc:=by simp[encHs]
@[simp] theorem get_encI (ks:List Int) (i:Nat):(encIs ks)[i]? =ks[i]?.map fun n=>[iC n]:=by simp[encIs]
@[simp] theorem encV_nil:encVs []=[]:=rfl
@[simp] theorem encH_nil:encHs []=[]:=rfl
@[simp] theorem encI_nil:encIs []=[]:=rfl
attribute [simp] encTs encSs
theorem at_lt {α:Type} {l:List α} {k:Nat} (h:k<l.length):∃x,l[k]? =some x∧l.drop k=x::l.drop (k+1):=
 ⟨l[k],List.getElem?_eq_getElem h,List.drop_eq_getElem_cons h⟩
theorem wrap1 {k n:Nat} (h:k<n) (hn:n≤1000000000):IntKind.i64.wrap ((k:Int)+1)=(k:Int)+1:=wrap_in (by omega) (by omega)
end Go.Proofs.YtfjidddhehckoaaGreat

namespace Go.Proofs.YtfjidddhehckoaaGreat
open Go Go.Hl
def boundedB (a b:Int):Bool:=decide (a≤b)&&(decide (-1048576≤a)&&decide (b≤1048576))
theorem boundedP_con (a b:Int) (d:Nat):Con Tryz.prog 174 true [li a,li b] (.v (lb (boundedB a b))) none d:=by
 refine con_of_HTA Tryz.func174 ?_;simp only[Tryz.f174];refine HT_sA ?_;refine HT_sA ?_;exact(HT_retE (fun h=>⟨.inr rfl,h⟩) _ (by simp[*];rfl) (by first|rfl|(simp[*,boundedB,Bool.and_assoc];done)|(simp only[resR,boundedB,Bool.and_assoc];(repeat' split)<;>first|rfl|(exfalso;omega)|simp_all)) (by simp))
theorem boundedR_con (a b:Int) (d:Nat):Con Tryz.prog 50 true [li a,li b] (.v (lb (boundedB a b))) none d:=by
 refine con_of_HTA Tryz.func50 ?_;simp only[Tryz.f50];refine HT_sA ?_;refine HT_sA ?_;exact(HT_retE (fun h=>⟨.inr rfl,h⟩) _ (by simp[*];rfl) (by first|rfl|(simp[*,boundedB,Bool.and_assoc];done)|(simp only[resR,boundedB,Bool.and_assoc];(repeat' split)<;>first|rfl|(exfalso;omega)|simp_all)) (by simp))
def kidsP (o:Int):Int×Int:=if o=0∨o=24 then(0,0)else if o=6∨o=7 then(1,1)else if 8≤o∧o≤22 then(2,2)else if o=23 then(3,3)else if o=25 then(2,33)else(-1,-1)
theorem kidsP_con (o:Int) (d:Nat):Con Tryz.prog 200 true [li o] (.tup [li (kidsP o).1,li (kidsP o).2]) none d:=by
 refine con_of_HTA Tryz.func200 ?_;simp only[Tryz.f200];refine HT_sA ?_;refine HT_seq<|HT_block<|HT_seq<|HT_runA ?_;refine(HT_cond rfl (fun h2=>?_) (fun h2=>?_))
 · (try simp only[BN]at h2);refine HT_sA ?_;exact(HT_retE (fun h=>⟨.inr rfl,h⟩) _ (by simp[*];rfl) (by first|rfl|(simp[*,kidsP];done)|(simp only[resR,kidsP];(repeat' split)<;>first|rfl|(exfalso;omega)|simp_all)) (by simp))
 (try simp only[BN]at h2);refine HT_sA ?_;refine(HT_cond rfl (fun h6=>?_) (fun h6=>?_))
 · (try simp only[BN]at h6);refine HT_sA ?_;exact(HT_retE (fun h=>⟨.inr rfl,h⟩) _ (by simp[*];rfl) (by first|rfl|(simp[*,kidsP];done)|(simp only[resR,kidsP];(repeat' split)<;>first|rfl|(exfalso;omega)|simp_all)) (by simp))
 (try simp only[BN]at h6);refine HT_sA ?_;refine(HT_cond rfl (fun h10=>?_) (fun h10=>?_))
 · (try simp only[BN]at h10);refine HT_sA ?_;exact(HT_retE (fun h=>⟨.inr rfl,h⟩) _ (by simp[*];rfl) (by first|rfl|(simp[*,kidsP];done)|(simp only[resR,kidsP];(repeat' split)<;>first|rfl|(exfalso;omega)|simp_all)) (by simp))
 (try simp only[BN]at h10);refine HT_sA ?_;refine(HT_cond rfl (fun h14=>?_) (fun h14=>?_))
 · (try simp only[BN]at h14);refine HT_sA ?_;exact(HT_retE (fun h=>⟨.inr rfl,h⟩) _ (by simp[*];rfl) (by first|rfl|(simp[*,kidsP];done)|(simp only[resR,kidsP];(repeat' split)<;>first|rfl|(exfalso;omega)|simp_all)) (by simp))
 (try simp only[BN]at h14);refine HT_sA ?_;refine(HT_cs rfl (fun h18=>?_) fun h18=>?_)
 · (try simp only[BN]at h18);refine HT_sA ?_;exact(HT_retE (fun h=>⟨.inr rfl,h⟩) _ (by simp[*];rfl) (by first|rfl|(simp[*,kidsP];done)|(simp only[resR,kidsP];(repeat' split)<;>first|rfl|(exfalso;omega)|simp_all)) (by simp))
 (try simp only[BN]at h18);refine HT_sA ?_;exact(HT_retE (fun h=>⟨.inr rfl,h⟩) _ (by simp[*];rfl) (by first|rfl|(simp[*,kidsP];done)|(simp only[resR,kidsP];(repeat' split)<;>first|rfl|(exfalso;omega)|simp_all)) (by simp))
theorem overP_con (n:Int) (b:Bool) (d:Nat):Con Tryz.prog 144 true [.one (.c (.ptr [iC n,bC b]))] (.v (lb (b||decide (1024<n)))) none d:=by
 refine con_of_HTA Tryz.func144 ?_;simp only[Tryz.f144];refine HT_sA ?_;refine HT_sA ?_;exact HT_rA
def chOk (s:ByteArray) (i:Nat):Bool:=
 match s[i]? with
 |some b=>(decide (97≤(b.toNat:Int))&&decide ((b.toNat:Int)≤122))||(decide (i≠0)&&((decide (48≤(b.toNat:Int))&&decide ((b.toNat:Int)≤57))||decide ((b.toNat:Int)=46)||decide ((b.toNat:Int)=95)))
 |none=>false
def nameB (s:ByteArray):Bool:=decide (1≤s.size)&&decide (s.size≤40)&&(List.range s.size).all (chOk s)
theorem get_bytes {s:ByteArray} {k:Nat} (h:k<s.size):∃b,s[k]? =some b:=⟨s[k],by simp[h]⟩
theorem size_pos {s:ByteArray}:s=⟨#[]⟩↔s.size=0:=by
 obtain⟨a⟩:=s;constructor
 · intro h;cases h;rfl
 intro h;have:a= #[]:=Array.eq_empty_of_size_eq_zero h;rw[this]
theorem nameB_bad {s:ByteArray} {k:Nat} (hk:k<s.size) (h:chOk s k=false):nameB s=false:=by
 unfold nameB;rw[Bool.and_eq_false_iff];refine .inr ?_;rw[List.all_eq_false];exact⟨k,by simpa using hk,by simp[h]⟩
theorem nameB_good {s:ByteArray} (h1:1≤s.size) (h2:s.size≤40) (h:∀j:Nat,j<s.size→chOk s j=true):nameB s=true:=by
 unfold nameB;simp only[h1,h2,decide_true,Bool.true_and,List.all_eq_true,List.mem_range];exact h
theorem nameP_con (s:ByteArray) (d:Nat):Con Tryz.prog 172 true [sv s] (.v (lb (nameB s))) none d:=by
 refine con_of_HTA Tryz.func172 ?_;simp only[Tryz.f172];refine HT_sA ?_;refine HT_seq<|HT_seq<|HT_runA ?_;refine(HT_cs rfl (fun h2=>?_) fun h2=>?_)
 · try simp only[BN]at h2
   have hz:nameB s=false:=by
    unfold nameB;simp only[size_pos]at h2;rw[Bool.and_eq_false_iff,Bool.and_eq_false_iff];simp only[decide_eq_false_iff_not];omega
   refine HT_sA ?_;exact HT_rA
 (try simp only[BN]at h2);simp only[size_pos]at h2;have h1:1≤s.size:=by omega
 have h40:s.size≤40:=by omega
 refine HT_seq<|HT_seq<|HT_runA ?_;refine HT_block<|(HT_loopU [0,14] (fun(x:Nat)=>[(15,.v (li x))]) (fun x=>[]) (fun x=>x≤s.size∧∀j:Nat,j<x→chOk s j=true) (fun x=>s.size - x) (0:Nat) ⟨Nat.zero_le _,fun j hj=>absurd hj (Nat.not_lt_zero j)⟩ ?_ ?_)
 · exact le_mkA (fun n=>n) []
 rintro k ⟨hk,hall⟩;simp only[upS,keepS,insS]
 try simp only[keepS,KN,Nat.reduceBEq,if_true,if_false,ins,Nat.reduceLT]
 refine HT_sA ?_;refine HT_seq<|(HT_cond rfl (fun h8=>HT_skip ?_) (fun h8=>?_))
 · (try simp only[BN]at h8);have hlt:k<s.size:=by omega
   obtain⟨b,hb⟩:=get_bytes hlt;have hw:=wrap1 hlt (by omega);have hk1:k+1≤s.size:=hlt;clear hlt h8;refine HT_seq<|HT_block<|HT_seq<|HT_runA ?_;refine HT_sA ?_;refine HT_sA ?_;refine HT_sA ?_;refine(HT_cs rfl (fun h13=>?_) fun h13=>?_)
   · try simp only[BN]at h13
     have hbad:chOk s k=false:=by
      unfold chOk;rw[hb];simp only[Bool.or_eq_false_iff,Bool.and_eq_false_iff,decide_eq_false_iff_not];omega
     have hz:=nameB_bad hk1 hbad;refine HT_sA ?_;exact HT_rA
   try simp only[BN]at h13
   have hgood:chOk s k=true:=by
    unfold chOk;rw[hb];simp only[Bool.or_eq_true,Bool.and_eq_true,decide_eq_true_eq];omega
   refine HT_runA ?_;exact⟨k+1,⟨by omega,fun j hj=>(Nat.lt_succ_iff_lt_or_eq.1 hj).elim (hall j) (fun e=>e▸hgood)⟩,by omega,le_mkA (fun n=>n) []⟩
 (try simp only[BN]at h8);have hz:=nameB_good h1 h40 (fun j hj=>hall j (by omega));refine(HT_exit ?_);refine HT_sA ?_;exact HT_rA
end Go.Proofs.YtfjidddhehckoaaGreat

namespace Go.Proofs.YtfjidddhehckoaaGreat
open Go Go.Hl
mutual
def Tm.nodes:Tm→Nat
 | .mk _ _ ks=>1+nodesT ks
def nodesT:List Tm→Nat
 |[]=>0
 |t::l=>t.nodes+nodesT l
end
mutual
def St.nodes:St→Nat
 | .mk _ _ _ _ t a b bs=>1+t.nodes+nodesS a+nodesS b
def nodesS:List St→Nat
 |[]=>0
 |s::l=>s.nodes+nodesS l
end
theorem nodes_pos (t:Tm):1≤t.nodes:=by cases t;simp[Tm.nodes]
theorem nodesS_pos (t:St):1≤t.nodes:=by cases t;simp[St.nodes];omega
theorem len_nodesT:∀l:List Tm,l.length≤nodesT l
 |[]=>by simp[nodesT]
 |t::l=>by have:=len_nodesT l;have:=nodes_pos t;simp only[nodesT,List.length_cons];omega
theorem len_nodesS:∀l:List St,l.length≤nodesS l
 |[]=>by simp[nodesS]
 |t::l=>by have:=len_nodesS l;have:=nodesS_pos t;simp only[nodesS,List.length_cons];omega
mutual
def mTm:Tm→Int→Int×Bool→Int×Bool
 | .mk _ _ ks,dep,s=>if((s.2||decide (12<dep))||decide (1024<s.1+1))=true then(s.1+1,s.2||decide (12<dep))else mTms ks (dep+1) (s.1+1,s.2||decide (12<dep))
def mTms:List Tm→Int→Int×Bool→Int×Bool
 |[],_,s=>s
 |t::l,dep,s=>mTms l dep (mTm t dep s)
end
mutual
theorem mTm_le:∀(t:Tm) (dep:Int) (s:Int×Bool),s.1≤(mTm t dep s).1∧(mTm t dep s).1≤s.1+t.nodes
 | .mk o n ks,dep,s=>by
   have:=mTms_le ks (dep+1) (s.1+1,s.2||decide (12<dep));simp only[mTm,Tm.nodes];split
   · simp only;omega
   simp only at this;omega
theorem mTms_le:∀(l:List Tm) (dep:Int) (s:Int×Bool),s.1≤(mTms l dep s).1∧(mTms l dep s).1≤s.1+nodesT l
 |[],dep,s=>by simp[mTms,nodesT]
 | t::l,dep,s=>by
   have h1:=mTm_le t dep s;have h2:=mTms_le l dep (mTm t dep s);simp only[mTms,nodesT];omega
end
theorem mterm_con (t:Tm):∀(dep c:Int) (b:Bool),0≤dep→0≤c→c+t.nodes≤1000000000→
  ConIO Tryz.prog 145 [iC c,bC b] [aT t,li dep] (.tup []) [iC (mTm t dep (c,b)).1,bC (mTm t dep (c,b)).2]:=by
 induction t using Tm.ind with
 |h o n ks ih=>
 intro dep c b hdep hc hn;simp only[Tm.nodes]at hn;obtain⟨res,hres⟩:∃r,mTm (.mk o n ks) dep (c,b)=r:=⟨_,rfl⟩;rw[hres];simp only[mTm]at hres;have hlen:=len_nodesT ks;have hw:IntKind.i64.wrap (c+1)=c+1:=wrap_in (by omega) (by omega);refine con_io_of_HT Tryz.func145 rfl (by kernel_rfl) (Nat.le_of_ble_eq_true rfl) ?_;simp only[Tryz.f145,aT,Tm.enc];refine HT_sA ?_;refine HT_sA ?_;refine HT_sA ?_;refine HT_seq<|HT_seq<|(HT_runcA [⟨true,.v (lb ((b||decide (12<dep))||decide (1024<c+1))),none⟩] ?_ ?_)
 · first|exact overP_con _ _ _|exact trivial|simpa[*]using overP_con _ _ _
 refine(HT_cs rfl (fun h4=>?_) fun h4=>?_)
 · (try simp only[BN]at h4);rw[if_pos (by simpa using h4)]at hres;subst hres;exact HT_ret (⟨.inr rfl,_,le_refl _,⟨_,by simp[*];rfl,by simp[resR]⟩,by simp[*]⟩)
 (try simp only[BN]at h4);rw[if_neg (by simpa using h4)]at hres;have hdep2:dep≤12:=by omega
 have hwd:IntKind.i64.wrap (dep+1)=dep+1:=wrap_in (by omega) (by omega);refine HT_sA ?_;refine HT_block<|(HT_loopU [0,2,29,30] (fun(x:Nat×Int×Bool)=>[(31,.v (li x.1))]) (fun x=>[(1000000,.box [.c (iC x.2.1),.c (bC x.2.2)])]) (fun x=>x.1≤ks.length∧mTms (ks.drop x.1) (dep+1) x.2=res∧0≤x.2.1∧x.2.1+nodesT (ks.drop x.1)≤1000000000) (fun x=>ks.length - x.1) (0,c+1,b||decide (12<dep)) ⟨Nat.zero_le _,hres,by simp only;omega,by simp only[List.drop_zero];omega⟩ ?_ ?_)
 · exact le_mkA (fun n=>n) []
 rintro⟨k,m,q⟩ ⟨hk,hJ,hm,hb⟩;simp only[upS,keepS,insS]
 try simp only[keepS,KN,Nat.reduceBEq,if_true,if_false,ins,Nat.reduceLT]
 simp only at hk hJ hm hb;refine HT_sA ?_;refine HT_seq<|(HT_cond rfl (fun h9=>HT_skip ?_) (fun h9=>?_))
 · (try simp only[BN]at h9);have hlt:k<ks.length:=by omega
   obtain⟨⟨eo,en,ek⟩,he,hd⟩:=at_lt hlt;have he':=get_encT he;simp only[Tm.enc]at he';have hw1:=wrap1 hlt (by omega);rw[hd]at hJ hb;simp only[mTms,nodesT]at hJ hb;have hk1:k+1≤ks.length:=hlt;have hmem:Tm.mk eo en ek∈ks:=List.mem_of_getElem? he;have hle:=mTm_le (.mk eo en ek) (dep+1) (m,q);clear hlt h9;refine HT_seq<|HT_block<|HT_seq<|HT_runA ?_;refine(HT_runIO 4 (.tup []) ([iC (mTm (.mk eo en ek) (dep+1) (m,q)).1,bC (mTm (.mk eo en ek) (dep+1) (m,q)).2]) rfl (by simp[*];rfl) (by simp[ioOf, *];first|exact⟨rfl,rfl,rfl,rfl,rfl⟩|exact⟨rfl,rfl,rfl,rfl⟩|exact⟨rfl,rfl,rfl⟩|exact⟨rfl,rfl⟩|rfl) (ih _ hmem (dep+1) m q (by omega) hm (by omega)) (by simp) (by simp[*];rfl) ?_);refine HT_runA ?_;exact⟨(k+1,mTm (.mk eo en ek) (dep+1) (m,q)),⟨hk1,hJ,by simp only at hle⊢;omega,by simp only at hle⊢;omega⟩,by simp only;omega,le_mkA (fun n=>n) []⟩
 (try simp only[BN]at h9);have hkl:k=ks.length:=by omega
 subst hkl;rw[List.drop_length]at hJ;simp only[mTms]at hJ;subst hJ;refine(HT_exit ?_);exact(⟨.inl rfl,_,le_refl _,⟨_,by simp[*];rfl,by simp[resR]⟩,by simp[*]⟩)
end Go.Proofs.YtfjidddhehckoaaGreat

namespace Go.Proofs.YtfjidddhehckoaaGreat
open Go Go.Hl
def encPs (k:List (Int×Int)):List (List CD):=k.map fun p=>[iC p.1,iC p.2]
@[simp] theorem len_encP (k:List (Int×Int)):(encPs k).length=k.length:=by simp[encPs]
@[simp] theorem get_encP (k:List (Int×Int)) (i:Nat):(encPs k)[i]? =k[i]?.map fun p=>[iC p.1,iC p.2]:=by simp[encPs]
@[simp] theorem encP_nil:encPs []=[]:=rfl
abbrev aP (p:Int×Int):TV:=.agg [.c (iC p.1),.c (iC p.2)]
def mn (a b:Int):Int:=if b<a then b else a
def mx (a b:Int):Int:=if a<b then b else a
def hullP (p q:Int×Int):Int×Int:=(mn p.1 q.1,mx p.2 q.2)
def hullL:List (Int×Int)→Int×Int→Int×Int
 |[],p=>p
 |q::l,p=>hullL l (hullP p q)
def mulP (a b:Int×Int):Int×Int:=hullP (hullP (hullP (a.1*b.1,a.1*b.1) (a.1*b.2,a.1*b.2)) (a.2*b.1,a.2*b.1)) (a.2*b.2,a.2*b.2)
def bnd (p:Int×Int):Prop:=-1048576≤p.1∧p.1≤p.2∧p.2≤1048576
theorem hull_con (p q:Int×Int) (d:Nat):Con Tryz.prog 204 true [aP p,aP q] (.v (aP (hullP p q))) none d:=by
 refine con_of_HTA Tryz.func204 ?_;simp only[Tryz.f204];refine HT_sA ?_;refine HT_sA ?_;exact(HT_retE (fun h=>⟨.inr rfl,h⟩) _ (by simp[*];rfl) (by simp[resR,hullP,mn,mx]) (by simp))
theorem mul_le {x y:Int} (hx:-1048576≤x∧x≤1048576) (hy:-1048576≤y∧y≤1048576):-1099511627776≤x*y∧x*y≤1099511627776:=by
 have h1:x.natAbs≤1048576:=by omega
 have h2:y.natAbs≤1048576:=by omega
 have h3:=Nat.mul_le_mul h1 h2;rw[←Int.natAbs_mul]at h3;omega
theorem mul_con (x y:Int) (hx:-1048576≤x∧x≤1048576) (hy:-1048576≤y∧y≤1048576) (d:Nat):Con Tryz.prog 203 true [li x,li y] (.v (li (x*y))) none d:=by
 have hm:=mul_le hx hy;have hw:IntKind.i64.wrap (x*y)=x*y:=wrap_in (by omega) (by omega);refine con_of_HTA Tryz.func203 ?_;simp only[Tryz.f203];refine HT_sA ?_;refine HT_sA ?_;exact HT_rA
def hullI:List Int→Int×Int→Int×Int
 |[],p=>p
 |q::l,p=>hullI l (hullP p (q,q))
theorem corners_con (a b:Int×Int) (ha:bnd a) (hb:bnd b) (d:Nat):Con Tryz.prog 202 true [aP a,aP b,.one (.fn 203 [])] (.v (aP (mulP a b))) none d:=by
 obtain⟨a1,a2⟩:=a;obtain⟨b1,b2⟩:=b;simp only[bnd]at ha hb;refine con_of_HTA Tryz.func202 ?_;simp only[Tryz.f202];obtain⟨L,hL⟩:∃L,L=[a1*b2,a2*b1,a2*b2]:=⟨_,rfl⟩;have hlen:L.length=3:=by rw[hL];rfl
 obtain⟨res,hres⟩:∃res,mulP (a1,a2) (b1,b2)=res:=⟨_,rfl⟩;rw[hres];have hres2:hullI L (a1*b1,a1*b1)=res:=by rw[←hres,hL];rfl
 clear hres;refine HT_sA ?_;refine HT_scA [⟨true,.v (li (a1*b1)),none⟩] ?_ ?_
 · first|exact mul_con _ _ (by omega) (by omega) _|exact trivial|simpa[*]using mul_con _ _ (by omega) (by omega) _
 refine HT_sA ?_;refine HT_seq<|HT_seq<|(HT_drunc [⟨true,.v (li (a1*b2)),none⟩,⟨true,.v (li (a2*b1)),none⟩,⟨true,.v (li (a2*b2)),none⟩] (by kernel_rfl) (by kernel_rfl) (by rfl) (by simp[*];first|exact⟨rfl,Iff.rfl⟩|exact⟨rfl,trivial⟩|rfl) ?_ ?_)
 · first|exact trivial|exact trivial|(repeat' first|exact trivial|exact mul_con _ _ (by omega) (by omega) _|exact mul_con _ _ (by omega) (by omega) _|exact mul_con _ _ (by omega) (by omega) _|apply And.intro)
 refine HT_block<|(HT_loopU [6,8,38,39] (fun(x:Nat×Int×Int)=>[(40,.v (li x.1))]) (fun x=>[(6,.box [.c (iC 0),.c (iC 0)]),(8,.box [.c (iC x.2.1),.c (iC x.2.2)]),(38,.row 3 1 (encIs L))]) (fun x=>x.1≤3∧hullI (L.drop x.1) x.2=res) (fun x=>3 - x.1) (0,a1*b1,a1*b1) ⟨Nat.zero_le _,hres2⟩ ?_ ?_)
 · exact le_mk (fun n=>n) [] rfl (by simp[*,upS,keepS]) (by simp[upS,encIs,hL]) (by simp[upS])
 rintro⟨k,m,q⟩ ⟨hk,hJ⟩;simp only[upS,keepS,insS]
 try simp only[keepS,KN,Nat.reduceBEq,if_true,if_false,ins,Nat.reduceLT]
 simp only at hk hJ;clear hres2 hL;refine HT_sA ?_;refine HT_seq<|(HT_cond rfl (fun h6=>HT_skip ?_) (fun h6=>?_))
 · (try simp only[BN]at h6);have hlt:k<L.length:=by omega
   obtain⟨e,he,hd⟩:=at_lt hlt;have hw1:=wrap1 hlt (by omega);rw[hd]at hJ;simp only[hullI]at hJ;have hk1:k+1≤3:=by omega
   clear hlt h6;refine HT_seq<|HT_block<|HT_seq<|HT_runA ?_;refine(HT_runcA [⟨true,.v (aP (hullP (m,q) (e,e))),none⟩] ?_ ?_)
   · first|exact hull_con (m,q) (e,e) _|exact trivial|simpa[*]using hull_con (m,q) (e,e) _
   refine HT_runA ?_;exact⟨(k+1,hullP (m,q) (e,e)),⟨hk1,hJ⟩,by simp only;omega,le_mkA (fun n=>n) []⟩
 (try simp only[BN]at h6);have hkl:k=L.length:=by omega
 rw[hkl,List.drop_length]at hJ;simp only[hullI]at hJ;refine(HT_exit ?_);refine HT_sA ?_;exact(HT_retE (fun h=>⟨.inr rfl,h⟩) _ (by simp[*];rfl) (by subst hJ;rfl) (by simp))
end Go.Proofs.YtfjidddhehckoaaGreat

namespace Go.Proofs.YtfjidddhehckoaaGreat
open Go Go.Hl
def refB (vars:List Vr) (inp:Bool) (n:Int):Bool:=
 decide (0≤n)&&match vars[n.toNat]? with
  |some v=> !(inp&&decide (v.kind=0))
  |none=>false
def nodeB (vars:List Vr) (inp:Bool) (o n:Int) (len:Nat):Bool:=
 (!decide ((kidsP o).1<0)&&(!decide ((len:Int)<(kidsP o).1)&& !decide ((kidsP o).2<(len:Int))))&&(if o=0 then true else if o=24 then refB vars inp n else decide (n=0))
mutual
def formB (vars:List Vr) (inp:Bool):Tm→Bool
 | .mk o n ks=>nodeB vars inp o n ks.length&&formBs vars inp ks
def formBs (vars:List Vr) (inp:Bool):List Tm→Bool
 |[]=>true
 |t::l=>formB vars inp t&&formBs vars inp l
end
theorem formBs_mem {vars:List Vr} {inp:Bool}:∀{l:List Tm},formBs vars inp l=true→∀t∈l,formB vars inp t=true
 |[],_,t,ht=>by cases ht
 | a::l,h,t,ht=>by
   simp only[formBs,Bool.and_eq_true]at h;rcases List.mem_cons.1 ht with rfl|h1
   · exact h.1
   exact formBs_mem h.2 t h1
theorem get_vars {vars:List Vr} {n:Int}:(0≤n∧n<vars.length)→∃v,vars[n.toNat]? =some v:=by
 rintro⟨h1,h2⟩;have:n.toNat<vars.length:=by omega
 exact⟨vars[n.toNat],by simp[this]⟩
theorem get_none {vars:List Vr} {n:Int} (h1:0≤n) (h2:¬n<vars.length):vars[n.toNat]? =none:=by
 rw[List.getElem?_eq_none];omega
theorem formP_con (vars:List Vr) (inp:Bool) (hv:vars.length≤1000000000) (t:Tm):t.nodes≤1000000000→∀d:Nat,
  Con Tryz.prog 190 true [lV vars,aT t,lb inp] (.v (lb (formB vars inp t))) none d:=by
 induction t using Tm.ind with
 |h o n ks ih=>
 intro hn d;simp only[Tm.nodes]at hn;have hlen:=len_nodesT ks;obtain⟨res,hres⟩:∃r,formB vars inp (.mk o n ks)=r:=⟨_,rfl⟩;rw[hres];simp only[formB]at hres
 have ih':∀t∈ks,∀d,Con Tryz.prog 190 true [lV vars,aT t,lb inp] (.v (lb (formB vars inp t))) none d:=by
  intro t ht d;refine ih t ht ?_ d
  have:t.nodes≤nodesT ks:=by
   clear hres ih hn hlen
   induction ks with
   |nil=>cases ht
   | cons a l ih=>
     simp only[nodesT];rcases List.mem_cons.1 ht with rfl|h
     · omega
     have:=ih h;omega
  omega
 clear ih;refine con_of_HTA Tryz.func190 ?_;simp only[Tryz.f190];simp only[aT,Tm.enc];refine HT_sA ?_;refine HT_scA [⟨true,.tup [li (kidsP o).1,li (kidsP o).2],none⟩] ?_ ?_
 · first|exact kidsP_con o _|exact trivial|simpa[*]using kidsP_con o _
 refine HT_seq<|HT_seq<|HT_runA ?_;refine(HT_cs rfl (fun h3=>?_) fun h3=>?_)
 · try simp only[BN]at h3
   have hz:nodeB vars inp o n ks.length=false:=by
    unfold nodeB;rw[Bool.and_eq_false_iff];refine .inl ?_;simp only[Bool.and_eq_false_iff,Bool.not_eq_false',decide_eq_true_eq];omega
   rw[hz,Bool.false_and]at hres;refine HT_sA ?_;exact(HT_retE (fun h=>⟨.inr rfl,h⟩) _ (by simp[*];rfl) (by first|rfl|simp[*]) (by simp))
 try simp only[BN]at h3
 have hz:(!decide ((kidsP o).1<0)&&(!decide ((ks.length:Int)<(kidsP o).1)&& !decide ((kidsP o).2<(ks.length:Int))))=true:=by
  simp only[Bool.and_eq_true,Bool.not_eq_true',decide_eq_false_iff_not];omega
 refine(HT_cutU [0,2,4] (fun(z:Unit)=>[]) (fun(z:Unit)=>[(4,.box [.c (iC o),.c (iC n),.c (.sl 3 (encTs ks))])]) (fun(z:Unit)=>nodeB vars inp o n ks.length=true) ?_ ?_)
 ·
  refine HT_sA ?_;refine HT_block<|HT_seq<|HT_runA ?_;refine(HT_cond rfl (fun h9=>HT_skip ?_) (fun h9=>?_))
  · (try simp only[BN]at h9);exact⟨(),by unfold nodeB;rw[hz,Bool.true_and,if_pos h9],le_mkA (fun n=>n) []⟩
  (try simp only[BN]at h9);refine HT_sA ?_;refine(HT_cond rfl (fun h12=>?_) (fun h12=>?_))
  · (try simp only[BN]at h12);by_cases hn0:0≤n
    · by_cases hn3:n<vars.length
      · obtain⟨v,hv1⟩:=get_vars ⟨hn0,hn3⟩;have hn1:¬(vars.length:Int)≤n:=by omega
        have hn2:¬n<0:=by omega
        clear hn3;refine HT_sA ?_;refine(HT_cs rfl (fun h14=>?_) fun h14=>?_)
        · try simp only[BN]at h14
          have hz3:nodeB vars inp o n ks.length=false:=by
           unfold nodeB refB;rw[hz,Bool.true_and,if_neg h9,if_pos h12,hv1];simp[h14]
          rw[hz3,Bool.false_and]at hres;refine HT_sA ?_;exact(HT_retE (fun h=>⟨.inr rfl,h⟩) _ (by simp[*];rfl) (by first|rfl|simp[*]) (by simp))
        try simp only[BN]at h14
        exact⟨(),by
         unfold nodeB refB;rw[hz,Bool.true_and,if_neg h9,if_pos h12,hv1];simp only[Bool.and_eq_true,Bool.not_eq_true',Bool.and_eq_false_iff,decide_eq_true_eq,decide_eq_false_iff_not]
         exact⟨hn0,h14⟩,le_mkA (fun n=>n) []⟩
      cases inp
      · have hv1:=get_none hn0 hn3;have hn1:(vars.length:Int)≤n:=by omega
        have hn2:¬n<0:=by omega
        have hz2:∀i,refB vars i n=false:=by intro i;simp[refB,hv1]
        clear hn3;refine HT_sA ?_;refine(HT_cs rfl (fun h14=>?_) fun h14=>?_)
        · try simp only[BN]at h14
          have hz3:∀i,nodeB vars i o n ks.length=false:=by
           intro i;unfold nodeB;rw[hz,Bool.true_and,if_neg h9,if_pos h12,hz2]
          rw[hz3,Bool.false_and]at hres;refine HT_sA ?_;exact(HT_retE (fun h=>⟨.inr rfl,h⟩) _ (by simp[*];rfl) (by first|rfl|simp[*]) (by simp))
        exact absurd h14 (by simp)
      have hv1:=get_none hn0 hn3;have hn1:(vars.length:Int)≤n:=by omega
      have hn2:¬n<0:=by omega
      have hz2:∀i,refB vars i n=false:=by intro i;simp[refB,hv1]
      clear hn3;refine HT_sA ?_;refine(HT_cs rfl (fun h14=>?_) fun h14=>?_)
      · try simp only[BN]at h14
        have hz3:∀i,nodeB vars i o n ks.length=false:=by
         intro i;unfold nodeB;rw[hz,Bool.true_and,if_neg h9,if_pos h12,hz2]
        rw[hz3,Bool.false_and]at hres;refine HT_sA ?_;exact(HT_retE (fun h=>⟨.inr rfl,h⟩) _ (by simp[*];rfl) (by first|rfl|simp[*]) (by simp))
      exact absurd h14 (by simp)
    cases inp
    · have hn2:n<0:=by omega
      have hz2:∀i,refB vars i n=false:=by intro i;simp[refB,hn0]
      refine HT_sA ?_;refine(HT_cs rfl (fun h14=>?_) fun h14=>?_)
      · try simp only[BN]at h14
        have hz3:∀i,nodeB vars i o n ks.length=false:=by
         intro i;unfold nodeB;rw[hz,Bool.true_and,if_neg h9,if_pos h12,hz2]
        rw[hz3,Bool.false_and]at hres;refine HT_sA ?_;exact(HT_retE (fun h=>⟨.inr rfl,h⟩) _ (by simp[*];rfl) (by first|rfl|simp[*]) (by simp))
      exact absurd h14 (by simp)
    have hn2:n<0:=by omega
    have hz2:∀i,refB vars i n=false:=by intro i;simp[refB,hn0]
    refine HT_sA ?_;refine(HT_cs rfl (fun h14=>?_) fun h14=>?_)
    · try simp only[BN]at h14
      have hz3:∀i,nodeB vars i o n ks.length=false:=by
       intro i;unfold nodeB;rw[hz,Bool.true_and,if_neg h9,if_pos h12,hz2]
      rw[hz3,Bool.false_and]at hres;refine HT_sA ?_;exact(HT_retE (fun h=>⟨.inr rfl,h⟩) _ (by simp[*];rfl) (by first|rfl|simp[*]) (by simp))
    exact absurd h14 (by simp)
  (try simp only[BN]at h12);refine HT_sA ?_;refine(HT_cs rfl (fun h19=>?_) fun h19=>?_)
  · try simp only[BN]at h19
    have hz3:nodeB vars inp o n ks.length=false:=by
     unfold nodeB;rw[hz,Bool.true_and,if_neg h9,if_neg h12];simpa using h19
    rw[hz3,Bool.false_and]at hres;refine HT_sA ?_;exact(HT_retE (fun h=>⟨.inr rfl,h⟩) _ (by simp[*];rfl) (by first|rfl|simp[*]) (by simp))
  try simp only[BN]at h19
  exact⟨(),by
   unfold nodeB;rw[hz,Bool.true_and,if_neg h9,if_neg h12]
   simpa using h19,le_mkA (fun n=>n) []⟩
 rintro z hz;simp only[upS,keepS,insS]
 try simp only[keepS,KN,Nat.reduceBEq,if_true,if_false,ins,Nat.reduceLT]
 rw[hz,Bool.true_and]at hres;refine HT_seq<|HT_seq<|HT_runA ?_;refine HT_block<|(HT_loopU [0,2,65,66] (fun(x:Nat)=>[(67,.v (li x))]) (fun x=>[]) (fun x=>x≤ks.length∧formBs vars inp (ks.drop x)=res) (fun x=>ks.length - x) (0:Nat) ⟨Nat.zero_le _,hres⟩ ?_ ?_)
 · exact le_mkA (fun n=>n) []
 rintro k ⟨hk,hJ⟩;simp only[upS,keepS,insS]
 try simp only[keepS,KN,Nat.reduceBEq,if_true,if_false,ins,Nat.reduceLT]
 refine HT_sA ?_;refine HT_seq<|(HT_cond rfl (fun h26=>HT_skip ?_) (fun h26=>?_))
 · (try simp only[BN]at h26);have hlt:k<ks.length:=by omega
   obtain⟨⟨eo,en,ek⟩,he,hd⟩:=at_lt hlt;have he':=get_encT he;simp only[Tm.enc]at he';have hw1:=wrap1 hlt (by omega);rw[hd]at hJ;simp only[formBs]at hJ;have hk1:k+1≤ks.length:=hlt;have hmem:Tm.mk eo en ek∈ks:=List.mem_of_getElem? he;clear hlt h26;refine HT_seq<|HT_block<|HT_seq<|HT_runA ?_;refine HT_scA [⟨true,.v (lb (formB vars inp (.mk eo en ek))),none⟩] ?_ ?_
   · first|exact ih' _ hmem _|exact trivial|simpa[*]using ih' _ hmem _
   refine(HT_cs rfl (fun h29=>?_) fun h29=>?_)
   · (try simp only[BN]at h29);rw[h29,Bool.false_and]at hJ;subst hJ;refine HT_sA ?_;exact(HT_retE (fun h=>⟨.inr rfl,h⟩) _ (by simp[*];rfl) (by first|rfl|simp[*]) (by simp))
   (try simp only[BN]at h29);rw[h29,Bool.true_and]at hJ;refine HT_runA ?_;exact⟨k+1,⟨hk1,hJ⟩,by omega,le_mkA (fun n=>n) []⟩
 (try simp only[BN]at h26);have hkl:k=ks.length:=by omega
 subst hkl;rw[List.drop_length]at hJ;simp only[formBs]at hJ;subst hJ;refine(HT_exit ?_);refine HT_sA ?_;exact(HT_retE (fun h=>⟨.inr rfl,h⟩) _ (by simp[*];rfl) (by first|rfl|simp[*]) (by simp))
end Go.Proofs.YtfjidddhehckoaaGreat
