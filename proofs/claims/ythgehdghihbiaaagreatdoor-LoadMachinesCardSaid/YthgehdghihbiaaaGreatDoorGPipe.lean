/- Package call: Value, Back, From. Condition: an error's number is small. A guest's cycle, in plain Lean, told after the program's kernel. No condition. pipe.Count. Conditions: as many as Go can hold; the counts are small. pipe.Set: the first free place of four takes an end. No condition. -/
import Derived.Test.YthgehdghihbiaaaGreatDoorKClo
set_option linter.unusedVariables false
set_option maxRecDepth 100000
set_option maxHeartbeats 8000000
set_option linter.unusedSimpArgs false
namespace Go.Proofs.YthgehdghihbiaaaGreatDoor
open Go.RowKit KR
namespace Kn
def cval (e v:Int):Int:=if e=0 then v else (-e) % 4294967296
structure Call where
 n:Int
 a:Int
 b:Int
 c:Int
def Call.cells (x:Call):Array Value:=#[.int .u32 x.n,.int .u32 x.a,.int .u32 x.b,.int .u32 x.c]
def Proc.want (p:Proc):Call:=⟨p.wn,p.wa,p.wb,p.wc⟩
def Proc.asks (p:Proc) (x:Call):Proc:={p with wn:=x.n,wa:=x.a,wb:=x.b,wc:=x.c}
def Proc.from_ (p:Proc):Call:=⟨p.r0,p.r1,p.r2,p.r3⟩
def imageM (k:Kern) (n:Int):ByteArray:=match k.images[n.toNat]? with|some s=> Sg.makeM 64 s|none=> ⟨#[]⟩
def imageE (k:Kern) (n:Int):Int:=match k.images[n.toNat]? with|some s=> Sg.makeE 64 s|none=> 7
def count4 (l:List Pipe) (p:Proc) (by_:Int):List Pipe:=pcount (pcount (pcount (pcount l p.d0 p.e0 by_) p.d1 p.e1 by_) p.d2 p.e2 by_) p.d3 p.e3 by_
def htakeE (size:Int) (l:List Span) (n who:Int):List Span × Int:=if n<1∨hright size l=false then (l,1) else match htake size l n who with|some r=> (r,0)|none=> (l,5)
def born (p:Proc) (pid:Int):Proc:={p with pid:=pid,st:=1,wn:=0,wa:=0,wb:=0,wc:=0}
def freshV (k:Kern):Int:=if 6≤k.p.length then 0 else if (htakeE k.hs k.h 64 (next k.p)).2=0 then next k.p % 4294967296 else 0
def freshE (k:Kern):Int:=if 6≤k.p.length then 5 else (htakeE k.hs k.h 64 (next k.p)).2
def fresh (k:Kern) (p:Proc):Kern:=
 if 6≤k.p.length then k else
 if (htakeE k.hs k.h 64 (next k.p)).2=0 then {k with h:=(htakeE k.hs k.h 64 (next k.p)).1,pipes:=count4 k.pipes p 1,p:=put k.p (born p (next k.p)),t:=tadd k.t (next k.p)} else k
def back (p:Proc) (v e:Int):Proc:={p with r0:=cval e v,st:=1,wn:=0,wa:=0,wb:=0,wc:=0}
def answer (k:Kern) (p:Proc) (x:Call) (v e:Int):Kern:={k with p:=put k.p (back p v e),trace:=k.trace ++ [⟨p.pid,x.n,cval e v,k.now⟩]}
def over (p:Proc) (code:Int):Proc:={p with d0:=0,e0:=false,d1:=0,e1:=false,d2:=0,e2:=false,d3:=0,e3:=false,st:=4,code:=code}
def ends (k:Kern) (pid code why:Int):Kern:=
 if pid=1 then {k with p:=[],t:=⟨[],0⟩,s:=[],pipes:=[],h:=[],gone:=1 + why} else
 let p:=(find k.p pid).getD Proc.zero
 let l:=adopt k.p pid 1
 let k1:={k with pipes:=count4 k.pipes p (-1),h:=hdrop k.h pid,t:=tdrop k.t pid,s:=sdrop k.s pid}
 if ((find l p.par).map (fun q=> q.st==4)).getD true=true then {k1 with p:=remove l pid} else {k1 with p:=put l (over p code)}
def isEnd (k:Kern) (p:Proc) (n:Int):Bool:= !(decide (4≤n)||decide ((getFd p n.toNat).1<1)||decide ((k.pipes.length:Int)<(getFd p n.toNat).1))
structure Tried where
 k:Kern
 v:Int
 e:Int
def wait (k:Kern) (p:Proc):Tried:=
 match dead k.p p.pid with
 |some q=> ⟨{k with p:=remove k.p q.pid},(256 * q.pid + ((find k.p q.pid).getD Proc.zero).code) % 4294967296,0⟩
 |none=> if children k.p p.pid=[] then ⟨k,0,12⟩ else ⟨k,0,6⟩
def pipes (k:Kern) (p:Proc):Tried:=
 match pmake k.pipes with
 |none=> ⟨k,0,5⟩
 |some (l,n)=> match freeFd p with
  |none=> ⟨k,0,5⟩
  |some a=> match freeFd (setFd p a n false) with
   |none=> ⟨k,0,5⟩
   |some b=> ⟨{k with pipes:=l,p:=put k.p (setFd (setFd p a n false) b n true)},((a:Int) + 256 * b) % 4294967296,0⟩
def thePipe (k:Kern) (p:Proc) (n:Int):Pipe:=(k.pipes[((getFd p n.toNat).1 - 1).toNat]?).getD ⟨ByteArray.empty,0,0⟩
def writes (k:Kern) (p:Proc) (x:Call):Tried:=
 if isEnd k p x.a=false∨(getFd p x.a.toNat).2=false then ⟨k,0,1⟩ else
 if Sg.outE p.mem x.b x.c ≠ 0 then ⟨k,0,Sg.outE p.mem x.b x.c⟩ else
 let r:=pwrite (thePipe k p x.a) (Sg.outS p.mem x.b x.c)
 if r.2.2 ≠ 0 then ⟨k,0,r.2.2⟩ else ⟨{k with pipes:=k.pipes.set ((getFd p x.a.toNat).1 - 1).toNat r.1},r.2.1 % 4294967296,0⟩
def reads (k:Kern) (p:Proc) (x:Call):Tried:=
 if isEnd k p x.a=false∨(getFd p x.a.toNat).2=true then ⟨k,0,1⟩ else
 if Sg.outE p.mem x.b x.c ≠ 0 then ⟨k,0,Sg.outE p.mem x.b x.c⟩ else
 let r:=pread (thePipe k p x.a) x.c
 if r.2.2 ≠ 0 then ⟨k,0,r.2.2⟩ else
 ⟨{k with pipes:=k.pipes.set ((getFd p x.a.toNat).1 - 1).toNat r.1,p:=put k.p {p with mem:=Sg.inM p.mem x.b r.2.1}},(r.2.1.size:Int) % 4294967296,0⟩
def closes (k:Kern) (p:Proc) (x:Call):Tried:=
 if isEnd k p x.a=false then ⟨k,0,1⟩ else
 ⟨{k with pipes:=pcount k.pipes (getFd p x.a.toNat).1 (getFd p x.a.toNat).2 (-1),p:=put k.p (setFd p x.a.toNat 0 false)},0,0⟩
def sends (k:Kern) (p:Proc) (x:Call):Tried:=
 match k.outs[x.a.toNat]? with
 |none=> ⟨k,0,7⟩
 |some c=> if Sg.outE p.mem x.b x.c ≠ 0 then ⟨k,0,Sg.outE p.mem x.b x.c⟩ else
  if c.size<(Sg.outS p.mem x.b x.c).size then ⟨k,0,4⟩ else ⟨{k with sent:=k.sent ++ [⟨x.a,Sg.outS p.mem x.b x.c⟩]},0,0⟩
def recvs (k:Kern) (p:Proc) (x:Call):Tried:=
 match k.ins_[x.a.toNat]?,k.box[x.a.toNat]? with
 |some c,some b=> match b.l with
  |[]=> ⟨k,0,6⟩
  |m::_=> if x.c<m.body.size then ⟨k,0,4⟩ else
   if Sg.inE p.mem x.b m.body ≠ 0 then ⟨k,0,Sg.inE p.mem x.b m.body⟩ else
   ⟨{k with box:=k.box.set x.a.toNat (btake c b),p:=put k.p {p with mem:=Sg.inM p.mem x.b m.body}},(m.body.size:Int) % 4294967296,0⟩
 |_,_=> ⟨k,0,7⟩
def oneByte (a:Int):ByteArray:=⟨#[UInt8.ofNat (a % 256).toNat]⟩
def tried (k:Kern) (p:Proc) (x:Call):Tried:=
 if x.n=4 then wait k p
 else if x.n=6 then ⟨k,p.pid % 4294967296,0⟩
 else if x.n=9 then ⟨k,k.now % 4294967296,0⟩
 else if x.n=10 then ⟨{k with cons:=k.cons ++ oneByte x.a},0,0⟩
 else if x.n=11 then pipes k p
 else if x.n=12 then writes k p x
 else if x.n=13 then reads k p x
 else if x.n=14 then closes k p x
 else if x.n=15 then sends k p x
 else if x.n=16 then recvs k p x
 else ⟨k,0,1⟩
def triesB (k:Kern) (pid:Int) (x:Call):Bool:= !((tried k ((find k.p pid).getD Proc.zero) x).e==6 && !(x.n==16))
def tries (k:Kern) (pid:Int) (x:Call):Kern:=
 let r:=tried k ((find k.p pid).getD Proc.zero) x
 if triesB k pid x=true then answer r.k ((find r.k.p pid).getD Proc.zero) x r.v r.e else r.k
def stops (k:Kern) (p:Proc) (st:Int) (x:Call):Kern:={k with p:=put k.p {p with st:=st,wn:=x.n,wa:=x.a,wb:=x.b,wc:=x.c},t:=tdrop k.t p.pid}
def victim (k:Kern) (x:Call):Bool:=((find k.p x.a).map (fun q=> !(q.st==4))).getD false
def kills (k:Kern) (p:Proc) (x:Call):Kern:=
 if x.a=1 then answer k p x 0 13 else if victim k x=false then answer k p x 0 7 else
 let k1:=ends k x.a 137 0
 if x.a=p.pid then k1 else answer k1 ((find k1.p p.pid).getD Proc.zero) x 0 0
def killsB (k:Kern) (p:Proc) (x:Call):Bool:=decide (x.a=1)|| !victim k x|| !decide (x.a=p.pid)
def forked (p:Proc):Proc:={p with par:=p.pid,r0:=0}
def spawned (p:Proc) (m:ByteArray):Proc:={Proc.zero with par:=p.pid,mem:=m}
def execd (p:Proc) (m:ByteArray):Proc:={p with mem:=m,r0:=0,r1:=0,r2:=0,r3:=0,r4:=0,r5:=0,r6:=0,r7:=0,pc:=0}
def asks (k:Kern) (p:Proc) (x:Call):Kern:=
 if x.n=1 then ends k p.pid (x.a % 256) 0
 else if x.n=7 then {answer k p x 0 0 with t:=tyield k.t}
 else if x.n=8 then (if 0<x.a then {stops k p 3 x with s:=sadd k.s ⟨til k.now x.a,p.pid⟩} else answer k p x 0 0)
 else if x.n=20 then (if 3≤x.a then answer k p x 0 1 else answer {k with want:=3 + x.a} p x 0 0)
 else if x.n=19 then answer {k with want:=k.want + 1 + 1} p x 0 0
 else if x.n=18 then answer {k with want:=k.want + 1} p x 0 0
 else if x.n=5 then kills k p x
 else if x.n=3 then answer (fresh k (forked p)) p x (freshV k) (freshE k)
 else if x.n=2 then (if imageE k x.a=0 then answer (fresh k (spawned p (imageM k x.a))) p x (freshV k) (freshE k) else answer k p x 0 (imageE k x.a))
 else if x.n=17 then answer k (if imageE k x.a=0 then execd p (imageM k x.a) else p) x 0 (imageE k x.a)
 else if triesB k p.pid x=true then tries k p.pid x else stops (tries k p.pid x) p 2 x
def asksB (k:Kern) (p:Proc) (x:Call):Bool:=
 if x.n=1 then false else if x.n=7 then false else if x.n=8 then !decide (0<x.a)
 else if x.n=20 then true else if x.n=19 then true else if x.n=18 then true else if x.n=5 then killsB k p x
 else if x.n=3 then true else if x.n=2 then true else if x.n=17 then true else triesB k p.pid x
def wake1 (k:Kern) (pid:Int):Kern:=
 match find k.p pid with
 |some p=> if p.st=3 then {answer k p p.want 0 0 with t:=tadd k.t pid} else k
 |none=> k
def wake2 (k:Kern) (p:Proc):Kern:=
 if p.st=2 then (if triesB k p.pid p.want=true then {tries k p.pid p.want with t:=tadd (tries k p.pid p.want).t p.pid} else tries k p.pid p.want) else k
def wakes1 (k:Kern):Kern:=(due k.s k.now).foldl wake1 {k with s:=rest k.s k.now}
def wakes (k:Kern):Kern:=(wakes1 k).p.foldl wake2 (wakes1 k)
def stepped (p:Proc):Cp.St:=Cp.step [p.r0,p.r1,p.r2,p.r3,p.r4,p.r5,p.r6,p.r7] p.pc p.mem
def Proc.with_ (p:Proc) (s:Cp.St):Proc:={p with r0:=s.rs.getD 0 0,r1:=s.rs.getD 1 0,r2:=s.rs.getD 2 0,r3:=s.rs.getD 3 0,r4:=s.rs.getD 4 0,r5:=s.rs.getD 5 0,r6:=s.rs.getD 6 0,r7:=s.rs.getD 7 0,pc:=s.pc,mem:=s.m}
def goes (k:Kern):Kern:=
 match k.t.l with
 |[]=> k
 |pid::_=>
  let p:=(find k.p pid).getD Proc.zero
  let s:=stepped p
  let q:=p.with_ s
  let k1:={k with p:=put k.p q}
  if s.t=0 then {k1 with t:=tspend k1.t}
  else if s.t=3 then (if asksB k1 q q.from_=true then {asks k1 q q.from_ with t:=tspend (asks k1 q q.from_).t} else asks k1 q q.from_)
  else ends k pid (128 + s.t) s.t
def step (k:Kern):Kern:=
 let k1:={k with sent:=[],want:=0}
 let k2:=if k.gone=0 then goes (wakes k1) else k1
 {k2 with now:=til k2.now 1}
def run:Nat→Kern→Kern
 |0,k=> k
 |n + 1,k=> run n (step k)
def arrive (k:Kern) (n:Int) (body:ByteArray) (at_:Int):Kern:=
 if n<0∨(k.ins_.length:Int)≤n∨(k.box.length:Int)≤n then k else
 match k.ins_[n.toNat]?,k.box[n.toNat]? with
 |some c,some b=> {k with box:=k.box.set n.toNat (bsend c b at_ body)}
 |_,_=> k
def boot (mem:Int) (images:List ByteArray) (outs ins:List Chan) (now:Int):Kern:=
 let k0:Kern:={p:=[],t:=⟨[],0⟩,s:=[],pipes:=[],hs:=if mem<0 then 0 else mem,h:=[],now:=now,images:=images,outs:=outs,ins_:=ins,box:=List.replicate ins.length ⟨[],0⟩,cons:=⟨#[]⟩,trace:=[],sent:=[],want:=0,gone:=0}
 let k1:=if imageE k0 0=0 then fresh k0 {Proc.zero with mem:=imageM k0 0} else k0
 if (if imageE k0 0=0 then freshE k0 else imageE k0 0)=0 then k1 else {k1 with gone:=1}
abbrev SlPp (W:World) (v:Value) (l:List Pipe):Prop:=Sl 232 3 Pipe.cells W v l
def GivesPp (l:List Pipe) (w:World) (e:Ending) (w':World):Prop:=∃ v,e=.returned v∧SlPp w' v l∧Below w.heap.size w w'
theorem modify_set (l:List Pipe) (k:Nat) (f:Pipe→Pipe) (x:Pipe) (hx:l[k]? =some x):l.modify k f=l.set k (f x):=by
 apply List.ext_getElem?
 intro i
 rw [List.getElem?_modify,List.getElem?_set]
 by_cases h:k=i
 · subst h
   have:=(List.getElem?_eq_some_iff.1 hx).1
   rw [hx,if_pos rfl,if_pos this]
   simp
 · simp [h]
theorem PCount (v:Value) (l:List Pipe) (d:Int) (e:Bool) (by_:Int) (w:World) (h:SlPp w v l) (hn:l.length≤34359738368) (hby: -10≤by_∧by_≤10) (hb:∀ p ∈ l, -4611686018427387904≤p.rd∧p.rd≤4611686018427387904∧ -4611686018427387904≤p.wr∧p.wr≤4611686018427387904):
 Calls Tryz.prog 104 #[v,.agg #[.int .i64 d,.bool e],.int .i64 by_] w (GivesPp (pcount l d e by_) w):=by
 have HS:=hU h
 have HCL:=hU (fun W (hb:Below w.heap.size w W)=> clonePipe v l W (h.below hb) (by omega))
 obtain ⟨a,c,rfl,hnc,hcm⟩:=h.shape
 clear h
 by_cases hd:d<1
 · have HE:Hid (pcount l d e by_=l):=hU (by rw [pcount,if_pos (.inl hd)])
   go_enter Tryz.func104,Tryz.ntmps104
   repeat' (first|go_values|go_skip|go_guarded|(with_reducible refine wg ?_)|go_step|go_upon)
   go_ret
   rw [HE.out]
   exact ⟨_,rfl,HS.out.below bel,bel⟩
 · by_cases hdl:(l.length:Int)<d
   · have HE:Hid (pcount l d e by_=l):=hU (by rw [pcount,if_pos (.inr hdl)])
     go_enter Tryz.func104,Tryz.ntmps104
     repeat' (first|go_values|go_skip|go_guarded|(with_reducible refine wg ?_)|go_step|go_upon)
     go_ret
     rw [HE.out]
     exact ⟨_,rfl,HS.out.below bel,bel⟩
   · obtain ⟨k,hk⟩:∃ k:Nat,d=(k:Int) + 1:=⟨(d - 1).toNat,by omega⟩
     subst hk
     have hkl:k<l.length:=by omega
     obtain ⟨x,hx⟩:∃ x,l[k]? =some x:=⟨_,List.getElem?_eq_getElem hkl⟩
     have hxb:=hb x (List.mem_of_getElem? hx)
     have HE:Hid (pcount l ((k:Int) + 1) e by_=l.set k (if e then {x with wr:=x.wr + by_} else {x with rd:=x.rd + by_})):=hU (by
      rw [pcount,if_neg (by omega),show ((k:Int) + 1 - 1).toNat=k by omega,modify_set l k _ x hx])
     have hw1:IntKind.i64.wrap (x.wr + by_)=x.wr + by_:=by rw [IntKind.wrap_i64];omega
     have hw2:IntKind.i64.wrap (x.rd + by_)=x.rd + by_:=by rw [IntKind.wrap_i64];omega
     have hki:(k:Int)<(l.length:Int):=by omega
     have hg1:¬ (l.length:Int)<(k:Int) + 1:=by omega
     have HX:=hU hx
     clear hx hb hxb
     go_enter Tryz.func104,Tryz.ntmps104
     repeat' (first|go_values|go_skip|go_guarded|(with_reducible refine wg ?_)|go_step|go_upon)
     refine (HCL.out _ bel).mono ?_
     rintro ev w1 ⟨v1,rfl,hown,hb1⟩
     have hz1:=hb1.size
     simp at hz1
     have HB1:=hU (Below.to ((Below.refl w.heap.size w).alloc (Nat.le_refl _) _) hb1)
     have k0:w1.cell? ⟨w.heap.size,1,none⟩=some (.bool e):=(hb1.cell (p:=⟨w.heap.size,1,none⟩) (by simp)).trans (by go_simp)
     have k1:w1.cell? ⟨w.heap.size,0,none⟩=some (.int .i64 ((k:Int) + 1)):=(hb1.cell (p:=⟨w.heap.size,0,none⟩) (by simp)).trans (by go_simp)
     obtain ⟨g,cp,cur,rfl,hBg,hrow⟩:=hown.row (by intro e;subst e;simp at hkl)
     have hgl:=hlt hrow.1
     have hfit:k * 3 + 3≤cur.size:=by
      rw [hrow.2.2.2.1]
      have:(k + 1) * 3≤cp * 3:=Nat.mul_le_mul_right _ (by have:=hrow.2.1;omega)
      omega
     have c1:=hrow.get szPipe HX.out 1 (.int .i64 x.rd) rfl
     have c2:=hrow.get szPipe HX.out 2 (.int .i64 x.wr) rfl
     have HROW:=hU hrow
     simp at hBg
     have hw3:IntKind.i64.wrap ((k:Int) + 1 - 1)=(k:Int):=by rw [IntKind.wrap_i64];omega
     have hk3:(k:Int) + 1 - 1=(k:Int):=by omega
     have HSP2:Hid (splice cur (k * 3 + 2) #[.int .i64 (x.wr + by_)]=splice cur (k * 3) ({x with wr:=x.wr + by_}:Pipe).cells):=hU (splice_field (f:=Pipe.cells) (x:=x) (j:=2) (by rw [szPipe];exact hfit) (by rw [szPipe];decide) (hrow.get szPipe HX.out) hrow.1 rfl)
     have HSP1:Hid (splice cur (k * 3 + 1) #[.int .i64 (x.rd + by_)]=splice cur (k * 3) ({x with rd:=x.rd + by_}:Pipe).cells):=hU (splice_field (f:=Pipe.cells) (x:=x) (j:=1) (by rw [szPipe];exact hfit) (by rw [szPipe];decide) (hrow.get szPipe HX.out) hrow.1 rfl)
     have HSET:=hU (fun (y:Pipe) (W':World) (new:Array Value) (hn:splice cur (k * 3) y.cells=new) (hp:Put g new 232 w1 W')=> (Row.set szPipe HROW.out (i:=k) (x:=y) hkl hn hp).own szPipe (B:=w.heap.size + 1) hBg)
     clear hown hrow hb1 HCL
     dsimp only
     cases e
     all_goals
      repeat' (first
       |(refine wpList_store (v:=.int .i64 (x.wr + by_)) (off:=k * 3 + 2) rfl rfl rfl rfl oneInt.size HROW.out.1 rfl (by omega) (onesInt _) HSP2.out ?_;intro W2 hp2;(have HO2:=hU (HSET.out _ W2 _ rfl hp2));(have HB2:=hU (Below.put HB1.out hp2 (by omega)));clear hp2)
       |(refine wpList_store (v:=.int .i64 (x.rd + by_)) (off:=k * 3 + 1) rfl rfl rfl rfl oneInt.size HROW.out.1 rfl (by omega) (onesInt _) HSP1.out ?_;intro W2 hp2;(have HO2:=hU (HSET.out _ W2 _ rfl hp2));(have HB2:=hU (Below.put HB1.out hp2 (by omega)));clear hp2)
       |go_values|go_skip|go_guarded|(with_reducible refine wg ?_)|go_step|go_upon)
      go_ret
      rw [HE.out]
      have ho:=HO2.out
      rw [List.length_set] at ho
      exact ⟨_,rfl,ho.sl szPipe,HB2.out⟩
def fdCells (d0:Int) (e0:Bool) (d1:Int) (e1:Bool) (d2:Int) (e2:Bool) (d3:Int) (e3:Bool):Array Value:=#[.int .i64 d0,.bool e0,.int .i64 d1,.bool e1,.int .i64 d2,.bool e2,.int .i64 d3,.bool e3]
end Kn
end Go.Proofs.YthgehdghihbiaaaGreatDoor
