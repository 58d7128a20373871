/- Small lemmas on worlds and readings that the other texts of this seat use. Conditions: none of its own. More small lemmas on what is returned. Conditions: none of its own. A guest, in plain Lean, told after the program: processes, turns, alarms, pipes, the room, boxes. No condition. The plain arithmetic of instructions and of one processor: what Does, May answer, as plain functions on numbers. No condition. The plain arithmetic of memories of bytes: the byte and the word at a place, a memory with bytes. No condition. What one step of a processor comes to, as a plain function. No condition. -/
import Derived.WalkKit
import Derived.WalkSpells
import Derived.ChangeSame
import Derived.Lib.Hide
import Derived.ProofKit
import Derived.OpenShut
import Derived.Deep.QuietTactic
set_option linter.unusedVariables false
set_option linter.unusedSimpArgs false
namespace Go.Proofs.YthgehdghihbiaaaGreatDoor
open Go.RowKit Go.WideShapes Go.ChangeShapes
theorem hU {p:Prop} (h:p):RowKit.Hid p:=Lib.hid h
theorem bcell {W w1:World} (hb:Below W.heap.size W w1):(∀ b o,b<W.heap.size→w1.cell? ⟨b,o,none⟩=W.cell? ⟨b,o,none⟩)∧(∀ b o,b<W.heap.size→w1.frozen? ⟨b,o,none⟩=W.frozen? ⟨b,o,none⟩):=
 ⟨fun b o h=> hb.cell (p:=⟨b,o,none⟩) h,fun b o h=> hb.frozen (p:=⟨b,o,none⟩) h⟩
theorem Below.to {a b c:World} (h:Below a.heap.size a b) (k:Below b.heap.size b c):Below a.heap.size a c:=h.trans (k.mono h.size)
theorem below_drewN {B:Nat} {a w:World} (h:Below B a w) (n:Nat):Below B a (w.drewN n):=⟨h.os,h.tape,h.output,h.size,h.block⟩
theorem bfacts {W w1:World} (hb:Below W.heap.size W w1):(∀ b o,b<W.heap.size→w1.cell? ⟨b,o,none⟩=W.cell? ⟨b,o,none⟩)∧(∀ b o,b<W.heap.size→w1.frozen? ⟨b,o,none⟩=W.frozen? ⟨b,o,none⟩)∧W.heap.size≤w1.heap.size:=
 ⟨fun b o h=> hb.cell (p:=⟨b,o,none⟩) h,fun b o h=> hb.frozen (p:=⟨b,o,none⟩) h,hb.size⟩
section
variable {K:Act→World→Prop} {Q:Exit→Act→World→Prop} {a:Act} {w:World} {j k:Nat}
theorem ex_then_ret (h:Q .ret a w):Exit.then K Q .ret a w:=h
theorem ex_then_exit (h:Q (.exit k) a w):Exit.then K Q (.exit k) a w:=h
theorem ex_then_normal (h:K a w):Exit.then K Q .normal a w:=h
theorem ex_block_ret (h:Q .ret a w):Exit.inBlock k Q .ret a w:=h
theorem ex_block_normal (h:Q .normal a w):Exit.inBlock k Q .normal a w:=h
theorem ex_block_same (h:Q .normal a w):Exit.inBlock k Q (.exit k) a w:=by simp only [Exit.inBlock,↓reduceIte];exact h
theorem ex_block_other (hne:j ≠ k) (h:Q (.exit j) a w):Exit.inBlock k Q (.exit j) a w:=by simp only [Exit.inBlock,if_neg hne];exact h
class Way (g:Prop) (h:outParam Prop):Prop where
 go:h→g
instance:Way (Exit.then K Q .ret a w) (Q .ret a w):=⟨ex_then_ret⟩
instance:Way (Exit.then K Q (.exit k) a w) (Q (.exit k) a w):=⟨ex_then_exit⟩
instance:Way (Exit.then K Q .normal a w) (K a w):=⟨ex_then_normal⟩
instance:Way (Exit.inBlock k Q .ret a w) (Q .ret a w):=⟨ex_block_ret⟩
instance:Way (Exit.inBlock k Q .normal a w) (Q .normal a w):=⟨ex_block_normal⟩
instance:Way (Exit.inBlock k Q (.exit k) a w) (Q .normal a w):=⟨ex_block_same⟩
theorem wg {g:Prop} {h:Prop} [x:Way g h] (y:h):g:=x.go y
theorem wayO (h:Q (.exit j) a w) (hne:j ≠ k:=by decide):Exit.inBlock k Q (.exit j) a w:=ex_block_other hne h
class Nq (j k:Nat):Prop where
 out:j ≠ k
instance {n:Nat}:Nq 0 (n + 1):=⟨by omega⟩
instance {n:Nat}:Nq (n + 1) 0:=⟨by omega⟩
instance {m n:Nat} [h:Nq m n]:Nq (m + 1) (n + 1):=⟨by have:=h.out;omega⟩
instance [h:Nq j k]:Way (Exit.inBlock k Q (.exit j) a w) (Q (.exit j) a w):=⟨fun x=> wayO x h.out⟩
end
section
variable {B:Nat} {a w:World}
theorem blN (h:Below B a w) {n:Nat}:Below B a (w.drewN n):=below_drewN h n
theorem blA (h:Below B a w) {o:Obj} (hs:B≤w.heap.size:=by first|(simp;done)|omega|(simp;omega)|(simp at *;omega)):Below B a (w.alloc o):=h.alloc hs o
theorem blS (h:Below B a w) {p:Addr} {v:Value} (hs:B≤p.block:=by first|(simp;done)|omega|(simp;omega)|(simp at *;omega)):Below B a (w.setCell p v):=h.setCell hs v
theorem blD (h:Below B a w):Below B a w.drew:=h.drew
end
theorem bel {B:Nat} {a w:World} (h:Below B a w:=by repeat with_reducible first|exact Below.refl _ _|assumption|refine Below.to ?_ (by assumption)|refine blN ?_|refine blA ?_|refine blS ?_|refine blD ?_):Below B a w:=h
structure Kp (Q:Prop):Prop where
 out:Q
def Is (v:Value) (w:World) (e:Ending) (w':World):Prop:=e=.returned v∧w=w'
theorem is_bool {x y:Bool} {w:World} (h:x=y):Is (.bool y) w (.returned (.bool x)) w:=⟨by rw [h],rfl⟩
theorem is_int {k:IntKind} {x y:Int} {w:World} (h:x=y):Is (.int k y) w (.returned (.int k x)) w:=⟨by rw [h],rfl⟩
def Gives (v:Value) (w:World) (e:Ending) (w':World):Prop:=e=.returned v∧Below w.heap.size w w'
theorem gives_of {v v':Value} {w w':World} (h:v=v') (hb:Below w.heap.size w w'):Gives v' w (.returned v) w':=⟨by rw [h],hb⟩
theorem gives_bool {x y:Bool} {w w':World} (h:x=y) (hb:Below w.heap.size w w'):Gives (.bool y) w (.returned (.bool x)) w':=⟨by rw [h],hb⟩
theorem gives_int {k:IntKind} {x y:Int} {w w':World} (h:x=y) (hb:Below w.heap.size w w'):Gives (.int k y) w (.returned (.int k x)) w':=⟨by rw [h],hb⟩
theorem gives_str {x y:ByteArray} {w w':World} (h:x=y) (hb:Below w.heap.size w w'):Gives (.string y) w (.returned (.string x)) w':=⟨by rw [h],hb⟩
theorem ret_int {k:IntKind} {a b:Int} (h:a=b):Ending.returned (.int k a)=.returned (.int k b):=by rw [h]
section
variable {H:Type} {enc:TypeId × Value→H} {P:Program}
theorem post_of_below {f:Func} {s:ChangeSpec} {apart fresh handsOn again:Bool} {W W':World} {args:Array Value} {v:Value} {ds gs:List (DataW H)} {before pa pv:List MemPlace}
 (hW:DataW.Whole enc P f.params.toList s.vars apart W args.toList ds gs before)
 (hres:∀ (b:Nat) (sp:Nat→Bool) (hd:Bool),DataW.TrodAll enc P W' b sp hd f.resultTypes.toList (v.resultList f.resultTypes.size) (s.fn H (ds ++ gs)).results [])
 (hargs:∀ sp:Nat→Bool,(∀ p ∈ before,sp p.block=true)→DataW.TrodAll enc P W' 0 sp true f.params.toList args.toList (s.fn H (ds ++ gs)).args pa)
 (hvars:∀ sp:Nat→Bool,(∀ p ∈ before,sp p.block=true)→DataW.TrodVars enc P W' sp s.vars (s.fn H (ds ++ gs)).vars pv)
 (hps:before=pa ++ pv) (hb:Below W.heap.size W W')
 (hok:∀ (j:Nat) (t:TypeId) (r:Value),f.resultTypes[j]? =some t→(v.resultList f.resultTypes.size)[j]? =some r→Value.okWide P W' .any 0 t r):
 s.post enc P f apart fresh handsOn again W args v W':=by
 have hlt:∀ p ∈ before,p.block<W.heap.size:=fun p hp=> hW.lt p hp
 have hold:∀ p ∈ before,(fun b=> decide (b<W.heap.size)) p.block=true:=fun p hp=> by simpa using hlt p hp
 refine ⟨ds,gs,before,[],pa,pv,hW,hres _ _ _,hargs _ hold,hvars _ hold,World.keptBut_mono (fun p hp=> ⟨hp,?_⟩) (hb.frame (· ∈ before)),fun _=> ?_⟩
 · rw [hps,List.mem_append] at hp
   exact Or.inr hp
 · obtain ⟨_,_,_,_,_,hz,hn⟩:=hW
   refine ⟨hok,_,_,([] ++ pa) ++ pv,⟨[] ++ pa,pv,trodAll_append (hargs _ (fun _ _=> rfl)) (hres _ _ _),hvars _ (fun _ _=> rfl),rfl,?_,?_⟩,?_⟩
   · intro b off hp
     have hin:MemPlace.cell b off ∈ before:=by rw [hps];simpa using hp
     rw [hb.frozen (hlt _ hin)]
     exact hz b off hin
   · intro ha
     have:=hn ha
     rw [hps] at this
     simpa using this
   · intro p hp _
     rw [hps]
     simpa using hp
theorem trodAll_stays (hl:laidOutB P=true) {W W':World} (hb:Below W.heap.size W W'):
 ∀ {ts:List TypeId} {vs:List Value} {ds:List (DataW H)} {ps:List MemPlace},(∀ t ∈ ts,P.readableRec t=true∧t<P.types.size)→
   DataW.TrodAll enc P W 0 (fun _=> true) true ts vs ds ps→(∀ x ∈ ps,x.block<W.heap.size)→
   ∀ sp:Nat→Bool,(∀ p ∈ ps,sp p.block=true)→DataW.TrodAll enc P W' 0 sp true ts vs ds ps:=by
 intro ts
 induction ts with
 |nil=>
  intro vs ds ps _ h _ sp _
  obtain ⟨rfl,rfl,rfl⟩:=trodAll_nil h
  exact trodAll_mk0
 |cons t ts ih=>
  intro vs ds ps hr h hlt sp hsp
  obtain ⟨v0,vs0,d0,ds0,p0,q0,rfl,rfl,rfl,h0,r0⟩:=trodAll_cons h
  refine trodAll_cons_mk ?_ ?_
  · exact WideElems.Trod_stays hl (hr t (by simp)).1 (hr t (by simp)).2 h0 (fun x hx=> hb.same (hlt x (by simp [hx]))) (fun x hx=> hsp x (by simp [hx]))
  · exact ih (fun t' ht'=> hr t' (by simp [ht'])) r0 (fun x hx=> hlt x (by simp [hx])) sp (fun x hx=> hsp x (by simp [hx]))
end
end Go.Proofs.YthgehdghihbiaaaGreatDoor
namespace Go.Proofs.YthgehdghihbiaaaGreatDoor
open Go.RowKit
theorem is_of {v v':Value} {w:World} (h:v=v'):Is v' w (.returned v) w:=⟨by rw [h],rfl⟩
theorem two_int {k1 k2:IntKind} {x x' y y':Int} (hx:x=x') (hy:y=y'):Value.tuple #[.int k1 x,.int k2 y]=.tuple #[.int k1 x',.int k2 y']:=by rw [hx,hy]
theorem two_str {k2:IntKind} {x x':ByteArray} {y y':Int} (hx:x=x') (hy:y=y'):Value.tuple #[.string x,.int k2 y]=.tuple #[.string x',.int k2 y']:=by rw [hx,hy]
end Go.Proofs.YthgehdghihbiaaaGreatDoor
namespace Go.Proofs.YthgehdghihbiaaaGreatDoor
namespace Kn
structure Proc where
 pid:Int
 par:Int
 st:Int
 r0:Int
 r1:Int
 r2:Int
 r3:Int
 r4:Int
 r5:Int
 r6:Int
 r7:Int
 pc:Int
 mem:ByteArray
 code:Int
 d0:Int
 e0:Bool
 d1:Int
 e1:Bool
 d2:Int
 e2:Bool
 d3:Int
 e3:Bool
 wn:Int
 wa:Int
 wb:Int
 wc:Int
def Proc.cells (p:Proc):Array Value:=#[.int .i64 p.pid,.int .i64 p.par,.int .i64 p.st,.int .u32 p.r0,.int .u32 p.r1,.int .u32 p.r2,.int .u32 p.r3,.int .u32 p.r4,.int .u32 p.r5,.int .u32 p.r6,.int .u32 p.r7,.int .u32 p.pc,
 .string p.mem,.int .i64 p.code,.int .i64 p.d0,.bool p.e0,.int .i64 p.d1,.bool p.e1,.int .i64 p.d2,.bool p.e2,.int .i64 p.d3,.bool p.e3,.int .u32 p.wn,.int .u32 p.wa,.int .u32 p.wb,.int .u32 p.wc]
def Proc.zero:Proc:=⟨0,0,0,0,0,0,0,0,0,0,0,0,ByteArray.empty,0,0,false,0,false,0,false,0,false,0,0,0,0⟩
def idx {α:Type} (l:List α) (pr:α→Bool):Int:=match l.findIdx? pr with|some i=> (i:Int)|none=> -1
def ins {α:Type} (l:List α) (i:Nat) (x:α):List α:=l.take i ++ x::l.drop i
def find (l:List Proc) (pid:Int):Option Proc:=l.find? (fun p=> p.pid==pid)
def put (l:List Proc) (p:Proc):List Proc:=
 match l.findIdx? (fun x=> x.pid==p.pid) with
 |some i=> l.set i p
 |none=> match l.findIdx? (fun x=> decide (p.pid<x.pid)) with
  |some i=> ins l i p
  |none=> l ++ [p]
def remove (l:List Proc) (pid:Int):List Proc:=l.filter (fun p=> !(p.pid==pid))
def most (l:List Proc) (m:Int):Int:=l.foldl (fun m p=> max m p.pid) m
def next (l:List Proc):Int:=most l 0 + 1
def children (l:List Proc) (pid:Int):List Int:=(l.filter (fun p=> p.par==pid)).map (·.pid)
def dead (l:List Proc) (par:Int):Option Proc:=l.find? (fun p=> p.par==par && p.st==4)
def adopt (l:List Proc) (src dst:Int):List Proc:=l.map (fun p=> if p.par=src then {p with par:=dst} else p)
structure Turn where
 l:List Int
 left:Int
def tadd (t:Turn) (pid:Int):Turn:=if t.l.contains pid then t else ⟨t.l ++ [pid],if t.l=[] then 5 else t.left⟩
def tdrop (t:Turn) (pid:Int):Turn:=if t.l.contains pid then ⟨t.l.filter (fun x=> !(x==pid)),if t.l.head? =some pid then 5 else t.left⟩ else t
def tyield (t:Turn):Turn:=match t.l with|[]=> t|x::r=> ⟨r ++ [x],5⟩
def tspend (t:Turn):Turn:=if t.l=[] then t else if t.left - 1≤0 then tyield ⟨t.l,t.left - 1⟩ else ⟨t.l,t.left - 1⟩
structure Alarm where
 at_:Int
 pid:Int
def Alarm.cells (a:Alarm):Array Value:=#[.int .u64 a.at_,.int .i64 a.pid]
def behind (a b:Alarm):Bool:=decide (b.at_<a.at_)||(a.at_==b.at_ && decide (b.pid<a.pid))
def sadd (l:List Alarm) (a:Alarm):List Alarm:=match l.findIdx? (fun x=> behind x a) with|some i=> ins l i a|none=> l ++ [a]
def sdrop (l:List Alarm) (pid:Int):List Alarm:=l.filter (fun x=> !(x.pid==pid))
def due (l:List Alarm) (now:Int):List Int:=(l.takeWhile (fun x=> decide (x.at_≤now))).map (·.pid)
def rest (l:List Alarm) (now:Int):List Alarm:=l.dropWhile (fun x=> decide (x.at_≤now))
def til (now n:Int):Int:=now + min n (18446744073709551615 - now)
structure Pipe where
 data:ByteArray
 rd:Int
 wr:Int
def Pipe.cells (p:Pipe):Array Value:=#[.string p.data,.int .i64 p.rd,.int .i64 p.wr]
def pcount (l:List Pipe) (d:Int) (e:Bool) (by_:Int):List Pipe:=
 if d<1∨(l.length:Int)<d then l else l.modify (d - 1).toNat (fun p=> if e then {p with wr:=p.wr + by_} else {p with rd:=p.rd + by_})
def pwrite (p:Pipe) (s:ByteArray):Pipe × Int × Int:=
 if s.size=0 then (p,0,0) else if p.rd≤0 then (p,0,14) else if 8≤p.data.size then (p,0,6)
 else ({p with data:=p.data ++ s.extract 0 (min (8 - p.data.size) s.size)},(min (8 - p.data.size) s.size:Nat),0)
def pread (p:Pipe) (n:Int):Pipe × ByteArray × Int:=
 if n<0 then (p,ByteArray.empty,1) else if 0<n∧p.data.size=0∧0<p.wr then (p,ByteArray.empty,6) else if n=0∨p.data.size=0 then (p,ByteArray.empty,0)
 else ({p with data:=p.data.extract (min n.toNat p.data.size) p.data.size},p.data.extract 0 (min n.toNat p.data.size),0)
def pfree (p:Pipe):Bool:=decide (p.rd≤0) && decide (p.wr≤0)
def pmake (l:List Pipe):Option (List Pipe × Nat):=
 match l.findIdx? pfree with
 |some i=> some (l.set i ⟨ByteArray.empty,1,1⟩,i + 1)
 |none=> if 4≤l.length then none else some (l ++ [⟨ByteArray.empty,1,1⟩],l.length + 1)
def getFd (p:Proc) (n:Nat):Int × Bool:=match n with|0=> (p.d0,p.e0)|1=> (p.d1,p.e1)|2=> (p.d2,p.e2)|_=> (p.d3,p.e3)
def setFd (p:Proc) (n:Nat) (d:Int) (e:Bool):Proc:=match n with|0=> {p with d0:=d,e0:=e}|1=> {p with d1:=d,e1:=e}|2=> {p with d2:=d,e2:=e}|_=> {p with d3:=d,e3:=e}
def freeFd (p:Proc):Option Nat:=if p.d0=0 then some 0 else if p.d1=0 then some 1 else if p.d2=0 then some 2 else if p.d3=0 then some 3 else none
structure Span where
 at_:Int
 n:Int
 who:Int
def Span.cells (s:Span):Array Value:=#[.int .i64 s.at_,.int .i64 s.n,.int .i64 s.who]
def hrightFrom (size:Int):List Span→Int→Bool
 |[],_=> true
 |s::l,a=> !(decide (s.at_<a)||decide (s.n<1)||decide (size<s.n)||decide (size - s.n<s.at_)) && hrightFrom size l (s.at_ + s.n)
def hright (size:Int) (l:List Span):Bool:=hrightFrom size l 0 && decide (0≤size)
def hhole (size n:Int):List Span→Int→Option Int
 |[],a=> if a<size∧n≤size - a then some a else none
 |s::l,a=> if a<s.at_∧n≤s.at_ - a then some a else hhole size n l (s.at_ + s.n)
def htake (size:Int) (l:List Span) (n who:Int):Option (List Span):=
 match hhole size n l 0 with
 |some a=> some (ins l (l.takeWhile (fun s=> decide (s.at_<a))).length ⟨a,n,who⟩)
 |none=> none
def hdrop (l:List Span) (who:Int):List Span:=l.filter (fun s=> !(s.who==who))
structure Msg where
 at_:Int
 body:ByteArray
def Msg.cells (m:Msg):Array Value:=#[.int .u64 m.at_,.string m.body]
structure Box where
 l:List Msg
 lost:Int
structure Chan where
 kind:Int
 src:Int
 dst:Int
 size:Int
 depth:Int
def Chan.cells (c:Chan):Array Value:=#[.int .i64 c.kind,.int .i64 c.src,.int .i64 c.dst,.int .i64 c.size,.int .i64 c.depth]
def bsend (c:Chan) (b:Box) (now:Int) (body:ByteArray):Box:=
 if c.size<body.size then b else if c.kind=1 then {b with l:=[⟨now,body⟩]} else if b.l.length<c.depth then {b with l:=b.l ++ [⟨now,body⟩]} else {b with lost:=b.lost + 1}
def btake (c:Chan) (b:Box):Box:=if c.kind=1 then b else {b with l:=b.l.drop 1}
structure Ev where
 pid:Int
 n:Int
 r:Int
 at_:Int
def Ev.cells (e:Ev):Array Value:=#[.int .i64 e.pid,.int .u32 e.n,.int .u32 e.r,.int .u64 e.at_]
structure Out where
 port:Int
 body:ByteArray
def Out.cells (o:Out):Array Value:=#[.int .i64 o.port,.string o.body]
structure Kern where
 p:List Proc
 t:Turn
 s:List Alarm
 pipes:List Pipe
 hs:Int
 h:List Span
 now:Int
 images:List ByteArray
 outs:List Chan
 ins_:List Chan
 box:List Box
 cons:ByteArray
 trace:List Ev
 sent:List Out
 want:Int
 gone:Int
end Kn
end Go.Proofs.YthgehdghihbiaaaGreatDoor
namespace Go.Proofs.YthgehdghihbiaaaGreatDoor.Cp
def useA (op:Int):Bool:=op !=18 && op !=24
def useB (op:Int):Bool:=decide (3≤op∧op≤12)||decide (14≤op∧op≤17)||decide (21≤op∧op≤23)
def useI (op:Int):Bool:=op==1||op==2||decide (13≤op∧op≤19)||decide (21≤op∧op≤23)
def lim (op a b i:Int):Bool:=decide (1≤op∧op≤24∧0≤a∧a<8∧0≤b∧b<8∧ -32768≤i∧i≤32767)
def may (op a b i:Int):Bool:=lim op a b i && (useA op||0==a) && (useB op||0==b) && (useI op||0==i)
theorem lim_iff {op a b i:Int}:lim op a b i=true↔(1≤op∧op≤24∧0≤a∧a<8∧0≤b∧b<8∧ -32768≤i∧i≤32767):=by simp [lim]
abbrev M:Int:=4294967296
def val (op ra rb im pc:Int):Int:=
 if op=1 then im else if op=2 then im * 65536 % 4294967296 else if op=3 then rb else if op=4 then (ra + rb) % 4294967296 else if op=5 then (ra - rb) % 4294967296
 else if op=6 then ra * rb % 4294967296 else if op=7 then (if rb=0 then 4294967295 else ra / rb) else if op=8 then bits .and .u32 ra rb else if op=9 then bits .or .u32 ra rb
 else if op=10 then bits .xor .u32 ra rb else if op=11 then ra * 2 ^ (rb % 32).toNat % 4294967296 else if op=12 then ra / 2 ^ (rb % 32).toNat else if op=13 then (ra + im) % 4294967296
 else if op=19 then (pc + 4) % 4294967296 else ra
def sgn (x:Int):Int:=if 2147483648≤x then x - 4294967296 else x
def nxt (op ra rb im pc:Int):Int:=
 if op=18∨op=19∨op=21∧ra=rb∨op=22∧sgn ra<sgn rb∨op=23∧ra<rb then (pc + 4 * im) % 4294967296 else if op=20 then ra else (pc + 4) % 4294967296
def plain (op:Int):Bool:= !(decide (14≤op∧op≤17)||op==24)
def regs (rs:List Int) (op a x:Int):List Int:=if op=18 then rs else rs.set a.toNat x
def doesR (rs:List Int) (pc op a b i:Int):List Int:=if may op a b i && plain op then regs rs op a (val op (rs.getD a.toNat 0) (rs.getD b.toNat 0) (i % 4294967296) pc) else rs
def doesP (rs:List Int) (pc op a b i:Int):Int:=if may op a b i && plain op then nxt op (rs.getD a.toNat 0) (rs.getD b.toNat 0) (i % 4294967296) pc else pc
def doesB (op a b i:Int):Bool:=may op a b i && plain op
def upd (rs:List Int) (k:Nat) (x:Int) (j:Nat):Int:=(rs.set k x).getD j 0
end Go.Proofs.YthgehdghihbiaaaGreatDoor.Cp
namespace Go.Proofs.YthgehdghihbiaaaGreatDoor.Sg
def byte (m:ByteArray) (k:Nat):Int:=((m.data.toList.getD k 0).toNat:Int)
theorem byte_eq {m:ByteArray} {k:Nat} (h:k<m.size):((m[k]'h).toNat:Int)=byte m k:=by
 unfold byte
 have h':k<m.data.toList.length:=by rw [Array.length_toList];exact h
 rw [List.getD_eq_getElem?_getD,List.getElem?_eq_getElem h']
 rfl
theorem byte_lo (m:ByteArray) (k:Nat):0≤byte m k:=by unfold byte;omega
theorem byte_hi (m:ByteArray) (k:Nat):byte m k<256:=by
 unfold byte
 have:=(m.data.toList.getD k 0).toNat_lt
 omega
def word (m:ByteArray) (k:Nat):Int:=byte m k + 256 * byte m (k + 1) + 65536 * byte m (k + 2) + 16777216 * byte m (k + 3)
theorem word_lo (m:ByteArray) (k:Nat):0≤word m k:=by
 unfold word
 have:=byte_lo m k;have:=byte_lo m (k + 1);have:=byte_lo m (k + 2);have:=byte_lo m (k + 3)
 omega
theorem word_hi (m:ByteArray) (k:Nat):word m k<4294967296:=by
 unfold word
 have:=byte_hi m k;have:=byte_hi m (k + 1);have:=byte_hi m (k + 2);have:=byte_hi m (k + 3)
 omega
theorem or8 {x b:Int} (h0:0≤x) (h1:x<16777216) (h2:0≤b) (h3:b<256):bits .or .u32 (x * 256) b=x * 256 + b:=by
 rw [u32_or _ _ (by omega) (by omega) h2 (by omega)]
 rw [nat_join 8 _ _ (by omega) (by omega)]
 omega
theorem or_word {b0 b1 b2 b3:Int} (h0:0≤b0) (h0':b0<256) (h1:0≤b1) (h1':b1<256) (h2:0≤b2) (h2':b2<256) (h3:0≤b3) (h3':b3<256):
 bits .or .u32 (bits .or .u32 (bits .or .u32 (bits .or .u32 0 (b3 % 4294967296) * 256 % 4294967296) (b2 % 4294967296) * 256 % 4294967296) (b1 % 4294967296) * 256 % 4294967296) (b0 % 4294967296)=
  b0 + 256 * b1 + 65536 * b2 + 16777216 * b3:=by
 have e3:bits .or .u32 0 b3=b3:=by have:=or8 (x:=0) (b:=b3) (by omega) (by omega) h3 h3';simpa using this
 rw [Int.emod_eq_of_lt h3 (by omega),Int.emod_eq_of_lt h2 (by omega),Int.emod_eq_of_lt h1 (by omega),Int.emod_eq_of_lt h0 (by omega),e3]
 rw [Int.emod_eq_of_lt (show 0≤b3 * 256 by omega) (by omega),or8 h3 (by omega) h2 h2']
 rw [Int.emod_eq_of_lt (show 0≤(b3 * 256 + b2) * 256 by omega) (by omega),or8 (by omega) (by omega) h1 h1']
 rw [Int.emod_eq_of_lt (show 0≤((b3 * 256 + b2) * 256 + b1) * 256 by omega) (by omega),or8 (by omega) (by omega) h0 h0']
 omega
def put (m:ByteArray) (k:Nat) (l:List UInt8):ByteArray:=⟨(m.data.toList.take k ++ l ++ m.data.toList.drop (k + l.length)).toArray⟩
theorem put_size {m:ByteArray} {k:Nat} {l:List UInt8} (h:k + l.length≤m.size):(put m k l).size=m.size:=by
 have:(put m k l).size=(m.data.toList.take k ++ l ++ m.data.toList.drop (k + l.length)).length:=by show (List.toArray _).size=_;exact List.size_toArray
 rw [this]
 simp only [List.length_append,List.length_take,List.length_drop]
 have e:m.data.toList.length=m.size:=Array.length_toList
 omega
theorem put_data (m:ByteArray) (k:Nat) (l:List UInt8):(put m k l).data.toList=m.data.toList.take k ++ l ++ m.data.toList.drop (k + l.length):=by simp [put]
theorem byte_put_in {m:ByteArray} {k j:Nat} {l:List UInt8} (h:k + l.length≤m.size) (h1:k≤j) (h2:j<k + l.length):byte (put m k l) j=((l.getD (j - k) 0).toNat:Int):=by
 have e:m.data.toList.length=m.size:=Array.length_toList
 have hk:(m.data.toList.take k).length=k:=by rw [List.length_take];omega
 unfold byte
 rw [put_data,List.getD_eq_getElem?_getD,List.getElem?_append_left (by simp only [List.length_append,hk];omega),List.getElem?_append_right (by omega),hk,List.getD_eq_getElem?_getD]
theorem byte_put_out {m:ByteArray} {k j:Nat} {l:List UInt8} (h:k + l.length≤m.size) (h1:j<k∨k + l.length≤j):byte (put m k l) j=byte m j:=by
 have e:m.data.toList.length=m.size:=Array.length_toList
 have hk:(m.data.toList.take k).length=k:=by rw [List.length_take];omega
 unfold byte
 rw [put_data,List.getD_eq_getElem?_getD,List.getD_eq_getElem?_getD]
 rcases h1 with h1|h1
 · rw [List.append_assoc,List.getElem?_append_left (by omega),List.getElem?_take,if_pos h1]
 · rw [List.getElem?_append_right (by simp only [List.length_append,hk];omega),List.getElem?_drop]
   simp only [List.length_append,hk]
   rw [show k + l.length + (j - (k + l.length))=j by omega]
def bytes4 (v:Int):List UInt8:=[UInt8.ofNat (v % 256).toNat,UInt8.ofNat (v / 256 % 256).toNat,UInt8.ofNat (v / 65536 % 256).toNat,UInt8.ofNat (v / 16777216).toNat]
theorem ofNat_toNat (n:Int) (h0:0≤n) (h1:n<256):(((UInt8.ofNat n.toNat).toNat:Nat):Int)=n:=by
 rw [UInt8.toNat_ofNat']
 omega
def has (m:ByteArray) (a n:Int):Bool:=decide (a + n≤m.size)
def isWord (m:ByteArray) (a:Int):Bool:=decide (a % 4=0) && has m a 4
def loadV (m:ByteArray) (a:Int):Int:=if isWord m a then word m a.toNat else 0
def loadE (m:ByteArray) (a:Int):Int:=if isWord m a then 0 else 10
def storeM (m:ByteArray) (a v:Int):ByteArray:=if isWord m a then put m a.toNat (bytes4 v) else m
def byteV (m:ByteArray) (a:Int):Int:=if has m a 1 then byte m a.toNat else 0
def byteE (m:ByteArray) (a:Int):Int:=if has m a 1 then 0 else 10
def putM (m:ByteArray) (a v:Int):ByteArray:=if has m a 1 then put m a.toNat [UInt8.ofNat (v % 256).toNat] else m
def outS (m:ByteArray) (a n:Int):ByteArray:=if has m a n then m.extract a.toNat (a + n).toNat else ⟨#[]⟩
def outE (m:ByteArray) (a n:Int):Int:=if has m a n then 0 else 10
def inM (m:ByteArray) (a:Int) (s:ByteArray):ByteArray:=if has m a s.size then put m a.toNat s.data.toList else m
def inE (m:ByteArray) (a:Int) (s:ByteArray):Int:=if has m a s.size then 0 else 10
def makeM (n:Int) (s:ByteArray):ByteArray:=if 0≤n∧n≤1024∧s.size≤n then ⟨(s.data.toList ++ List.replicate (n - s.size).toNat 0).toArray⟩ else ⟨#[]⟩
def makeE (n:Int) (s:ByteArray):Int:=if n<0∨1024<n then 1 else if n<s.size then 4 else 0
theorem storeM_size {m:ByteArray} {a v:Int} (h0:0≤a):(storeM m a v).size=m.size:=by
 unfold storeM
 split
 · rename_i h
   simp only [isWord,has,Bool.and_eq_true,decide_eq_true_eq] at h
   exact put_size (by simp [bytes4];omega)
 · rfl
theorem putM_size {m:ByteArray} {a v:Int} (h0:0≤a):(putM m a v).size=m.size:=by
 unfold putM
 split
 · rename_i h
   simp only [has,decide_eq_true_eq] at h
   exact put_size (by simp;omega)
 · rfl
end Go.Proofs.YthgehdghihbiaaaGreatDoor.Sg
namespace Go.Proofs.YthgehdghihbiaaaGreatDoor.Cp
def sgn16 (x:Int):Int:=if 32767<x then x - 65536 else x
def opOf (x:Int):Int:=x / 16777216
def aOf (x:Int):Int:=x / 1048576 % 16
def bOf (x:Int):Int:=x / 65536 % 16
def immOf (x:Int):Int:=sgn16 (x % 65536)
def takeB (x:Int):Bool:=may (opOf x) (aOf x) (bOf x) (immOf x)
structure St where
 rs:List Int
 pc:Int
 m:ByteArray
 t:Int
def stepI (rs:List Int) (pc:Int) (m:ByteArray) (op a b i:Int):St:=
 let at_:=(rs.getD b.toNat 0 + i) % 4294967296
 let v:=rs.getD a.toNat 0
 if op=14 then (if Sg.isWord m at_ then ⟨rs.set a.toNat (Sg.word m at_.toNat),(pc + 4) % 4294967296,m,0⟩ else ⟨rs,pc,m,2⟩)
 else if op=16 then (if Sg.has m at_ 1 then ⟨rs.set a.toNat (Sg.byte m at_.toNat),(pc + 4) % 4294967296,m,0⟩ else ⟨rs,pc,m,2⟩)
 else if op=15 then (if Sg.isWord m at_ then ⟨rs,(pc + 4) % 4294967296,Sg.put m at_.toNat (Sg.bytes4 v),0⟩ else ⟨rs,pc,m,2⟩)
 else if op=17 then (if Sg.has m at_ 1 then ⟨rs,(pc + 4) % 4294967296,Sg.put m at_.toNat [UInt8.ofNat (v % 256).toNat],0⟩ else ⟨rs,pc,m,2⟩)
 else if op=24 then ⟨rs,(pc + 4) % 4294967296,m,3⟩
 else ⟨doesR rs pc op a b i,doesP rs pc op a b i,m,0⟩
def step (rs:List Int) (pc:Int) (m:ByteArray):St:=
 if Sg.isWord m pc then
  (if takeB (Sg.word m pc.toNat) then stepI rs pc m (opOf (Sg.word m pc.toNat)) (aOf (Sg.word m pc.toNat)) (bOf (Sg.word m pc.toNat)) (immOf (Sg.word m pc.toNat)) else ⟨rs,pc,m,1⟩)
 else ⟨rs,pc,m,2⟩
def run:Nat→List Int→Int→ByteArray→St × Nat
 |0,rs,pc,m=> (⟨rs,pc,m,0⟩,0)
 |n + 1,rs,pc,m=>
  let s:=step rs pc m
  if s.t=0 then let r:=run n s.rs s.pc s.m;(r.1,r.2 + 1) else (s,0)
end Go.Proofs.YthgehdghihbiaaaGreatDoor.Cp
