/- A seat in plain Lean: a partition at work, as package seat tells it; what stays right and small of it. No condition. A seat as it is handed on, and what answers one. No condition. seat.looks: what is done with a guest that is gone. Conditions: the rows are small. seat.Begin: a partition that begins. Conditions: few rows. What is carried from world to world, where all that is made is new. No condition. -/
import Derived.Test.YthgehdghihbiaaaGreatDoorGPln
import Derived.Test.YthgehdghihbiaaaGreatDoorKwBoot
set_option linter.unusedVariables false
set_option maxRecDepth 100000
set_option maxHeartbeats 8000000
set_option linter.unusedSimpArgs false
namespace Go.Proofs.YthgehdghihbiaaaGreatDoor
namespace Kn
structure Part where
 mem:Int
 a1:Int
 a2:Int
 a3:Int
def Part.cells (x:Part):Array Value:=#[.int .i64 x.mem,.int .i64 x.a1,.int .i64 x.a2,.int .i64 x.a3]
structure Seat where
 k:Kern
 st:Int
 boots:Int
def Part.act (x:Part) (gone:Int):Int:=if gone=1 then x.a1 else if gone=2 then x.a2 else if gone=3 then x.a3 else 0
def reset (mem:Int) (k:Kern):Kern:={boot mem k.images k.outs k.ins_ k.now with box:=k.box,cons:=k.cons,trace:=k.trace,sent:=k.sent,want:=k.want}
def slooks (x:Part) (s:Seat):Seat:=
 if s.k.gone=0∨s.st=3 then s else
 if x.act s.k.gone=2 then {s with st:=3} else
 if x.act s.k.gone=3 then {s with k:=reset x.mem s.k,boots:=s.boots + 1} else s
def sbegin (x:Part) (images:List ByteArray) (outs ins:List Chan):Seat:=slooks x ⟨boot x.mem images outs ins 0,1,1⟩
def sgoes (s:Seat):Seat:=⟨step s.k,if (step s.k).want=1 then 2 else if (step s.k).want=2 then 3 else s.st,s.boots⟩
def scycle (x:Part) (s:Seat):Seat:=if s.st=1 then slooks x (sgoes s) else s
def swindow (s:Seat):Seat:=if s.st=2 then {s with st:=1} else s
def sarrive (s:Seat) (n:Int) (body:ByteArray):Seat:={s with k:=arrive s.k n body s.k.now}
def scycles (x:Part):Nat→Seat→Seat
 |0,s=> s
 |n + 1,s=> scycles x n (scycle x s)
theorem scycles_add (x:Part) (a:Nat):∀ (b:Nat) (s:Seat),scycles x (a + b) s=scycles x b (scycles x a s):=by
 induction a with
 |zero=> intro b s;rw [Nat.zero_add];rfl
 |succ a ih=> intro b s;rw [Nat.add_right_comm];exact ih b (scycle x s)
theorem scycles_succ (x:Part) (n:Nat) (s:Seat):scycles x (n + 1) s=scycle x (scycles x n s):=scycles_add x n 1 s
structure PartOk (x:Part):Prop where
 m0: -9223372036854775808≤x.mem
 m1:x.mem≤9223372036854775807
theorem Good.reset {n:Nat} {k:Kern} (h:Good n k) {mem:Int} (m0: -9223372036854775808≤mem) (m1:mem≤9223372036854775807):Good n (reset mem k):=by
 have hb:=boot_good mem k.images k.outs k.ins_ k.now h.im h.il h.now0 h.now1 m0 m1
 obtain ⟨e1,e2,e3,_,_,e5,_,_,_,e9⟩:=boot_frame mem k.images k.outs k.ins_ k.now
 refine ⟨hb.inv.same rfl rfl rfl rfl rfl rfl,hb.life,h.tr,h.co,h.se,fun q hq=> ?_,h.bl,?_,?_,h.bn,h.bd,?_,?_,hb.hs0,hb.hs1⟩
 · have:=e9 q hq
   omega
 · show (boot mem k.images k.outs k.ins_ k.now).ins_.length≤100
   rw [e3]
   exact h.il
 · show (boot mem k.images k.outs k.ins_ k.now).images.length≤100
   rw [e2]
   exact h.im
 · show 0≤(boot mem k.images k.outs k.ins_ k.now).now
   rw [e1]
   exact h.now0
 · show (boot mem k.images k.outs k.ins_ k.now).now≤_
   rw [e1]
   exact h.now1
theorem reset_now (mem:Int) (k:Kern):(reset mem k).now=k.now:=(boot_frame mem k.images k.outs k.ins_ k.now).1
structure SGood (n:Nat) (s:Seat):Prop where
 k:Good n s.k
 s1:1≤s.st
 s3:s.st≤3
 b1:1≤s.boots
 b2:s.boots≤n + 2
 nw:s.k.now≤n
 ou:s.k.outs.length≤100
theorem SGood.mono {n m:Nat} {s:Seat} (h:SGood n s) (hn:n≤m):SGood m s:=⟨h.k.mono hn,h.s1,h.s3,h.b1,by have:=h.b2;omega,by have:=h.nw;omega,h.ou⟩
theorem reset_outs (mem:Int) (k:Kern):(reset mem k).outs=k.outs:=by
 obtain ⟨_,_,_,h,_⟩:=boot_frame mem k.images k.outs k.ins_ k.now
 exact h
theorem slooks_good {n:Nat} {x:Part} {s:Seat} (hx:PartOk x) (hk:Good n s.k) (s1:1≤s.st) (s3:s.st≤3) (b1:1≤s.boots) (b2:s.boots≤n + 1) (nw:s.k.now≤n) (ou:s.k.outs.length≤100):SGood n (slooks x s):=by
 unfold slooks
 split
 · exact ⟨hk,s1,s3,b1,by omega,nw,ou⟩
 · split
   · exact ⟨hk,(show (1:Int)≤3 by decide),(show (3:Int)≤3 by decide),b1,by show s.boots≤_;omega,nw,ou⟩
   · split
     · exact ⟨hk.reset hx.m0 hx.m1,s1,s3,by show 1≤s.boots + 1;omega,by show s.boots + 1≤_;omega,by show (reset x.mem s.k).now≤_;rw [reset_now];exact nw,by show (reset x.mem s.k).outs.length≤_;rw [reset_outs];exact ou⟩
     · exact ⟨hk,s1,s3,b1,by omega,nw,ou⟩
theorem step_nw {n:Nat} {k:Kern} (h:Good n k) (hn:k.now≤n) (hb:n≤1000000):(step k).now=k.now + 1:=by
 rw [step_now h.inv h.life]
 unfold til
 have:=h.now0
 omega
theorem step_outs {n:Nat} {k:Kern} (h:Good n k):(step k).outs=k.outs:=by
 obtain ⟨_,_,k2,ht,he⟩:=h.inv.step h.life
 rw [he]
 exact ht.ou
theorem arrive_rows (k:Kern) (j:Int) (body:ByteArray) (at_:Int):(arrive k j body at_).outs=k.outs∧(arrive k j body at_).trace=k.trace∧(arrive k j body at_).cons=k.cons:=by
 unfold arrive
 split
 · exact ⟨rfl,rfl,rfl⟩
 · split <;> exact ⟨rfl,rfl,rfl⟩
theorem SGood.cycle {n:Nat} {x:Part} {s:Seat} (h:SGood n s) (hx:PartOk x) (hb:n≤1000000):SGood (n + 1) (scycle x s):=by
 unfold scycle
 split
 · have hn:=step_nw h.k h.nw hb
   have h1:=h.s1
   have h3:=h.s3
   refine slooks_good hx h.k.step ?_ ?_ h.b1 (by have:=h.b2;show s.boots≤_;omega) (by have:=h.nw;show (step s.k).now≤_;omega) (by show (step s.k).outs.length≤_;rw [step_outs h.k];exact h.ou)
   · show 1≤(if (step s.k).want=1 then 2 else if (step s.k).want=2 then 3 else s.st:Int)
     split
     · decide
     · split
       · decide
       · exact h1
   · show (if (step s.k).want=1 then 2 else if (step s.k).want=2 then 3 else s.st:Int)≤3
     split
     · decide
     · split
       · decide
       · exact h3
 · exact h.mono (Nat.le_succ n)
theorem SGood.cycles {x:Part} (hx:PartOk x) {n:Nat} {s:Seat} (h:SGood n s):∀ m:Nat,n + m≤1000000→SGood (n + m) (scycles x m s)
 |0,_=> h
 |m + 1,hm=> by
  rw [scycles_succ]
  exact (SGood.cycles hx h m (by omega)).cycle hx (by omega)
theorem SGood.window {n:Nat} {s:Seat} (h:SGood n s):SGood n (swindow s):=by
 unfold swindow
 split
 · exact ⟨h.k,(show (1:Int)≤1 by decide),(show (1:Int)≤3 by decide),h.b1,h.b2,h.nw,h.ou⟩
 · exact h
theorem SGood.arrive {n:Nat} {s:Seat} (h:SGood n s) (j:Int) (body:ByteArray) (hb:body.size≤140737488355328):SGood (n + 1) (sarrive s j body):=by
 have:=h.b2
 have:=h.nw
 exact ⟨h.k.arrive j body s.k.now hb,h.s1,h.s3,h.b1,by show s.boots≤_;omega,by show (Kn.arrive s.k j body s.k.now).now≤_;rw [arrive_now];omega,by show (Kn.arrive s.k j body s.k.now).outs.length≤_;rw [(arrive_rows _ _ _ _).1];exact h.ou⟩
structure SDeed where
 kind:Int
 n:Int
 body:ByteArray
def SDeed.cells (a:SDeed):Array Value:=#[.int .i64 a.kind,.int .i64 a.n,.string a.body]
def sdeed (x:Part) (s:Seat) (a:SDeed):Seat:=
 if a.kind=2 then sarrive s a.n a.body else if a.kind=3 then swindow s else if a.kind=1 then scycles x (steps a.n).toNat s else s
structure SGuest where
 x:Part
 images:List ByteArray
 outs:List Chan
 ins_:List Chan
structure SGuestOk (g:SGuest):Prop where
 im:g.images.length≤8
 ou:g.outs.length≤8
 ins_:g.ins_.length≤8
 x:PartOk g.x
def splays (g:SGuest) (l:List SDeed):Seat:=(l.take 30).foldl (sdeed g.x) (sbegin g.x g.images g.outs g.ins_)
def SmallSDeeds (l:List SDeed):Prop:=∀ a ∈ l,a.body.size≤140737488355328
theorem sbegin_good {g:SGuest} (hg:SGuestOk g):SGood 0 (sbegin g.x g.images g.outs g.ins_):=by
 have hb:=boot_good g.x.mem g.images g.outs g.ins_ 0 (by have:=hg.im;omega) (by have:=hg.ins_;omega) (Int.le_refl _) (by decide) hg.x.m0 hg.x.m1
 refine slooks_good hg.x hb (show (1:Int)≤1 by decide) (show (1:Int)≤3 by decide) (show (1:Int)≤1 by decide) (show (1:Int)≤((0:Nat):Int) + 1 by decide) ?_ ?_
 · show (boot g.x.mem g.images g.outs g.ins_ 0).now≤_
   rw [(boot_frame g.x.mem g.images g.outs g.ins_ 0).1]
   decide
 · show (boot g.x.mem g.images g.outs g.ins_ 0).outs.length≤_
   obtain ⟨_,_,_,h,_⟩:=boot_frame g.x.mem g.images g.outs g.ins_ 0
   rw [h]
   have:=hg.ou
   omega
theorem SGood.deed {n:Nat} {x:Part} {s:Seat} (h:SGood n s) (hx:PartOk x) (a:SDeed) (ha:a.body.size≤140737488355328) (hb:n + 60≤1000000):SGood (n + 60) (sdeed x s a):=by
 unfold sdeed
 split
 · exact (h.arrive a.n a.body ha).mono (by omega)
 · split
   · exact h.window.mono (by omega)
   · split
     · have hs:(steps a.n).toNat≤60:=by unfold steps;split <;> omega
       exact (h.cycles hx (steps a.n).toNat (by omega)).mono (by omega)
     · exact h.mono (by omega)
theorem sdeeds_good {g:SGuest} (hg:SGuestOk g) {l:List SDeed} (hl:SmallSDeeds l):∀ i:Nat,i≤100→SGood (60 * i) ((l.take i).foldl (sdeed g.x) (sbegin g.x g.images g.outs g.ins_))
 |0,_=> sbegin_good hg
 |i + 1,hi=> by
  have ih:=sdeeds_good hg hl i (by omega)
  cases hx:l[i]? with
  |none=>
   have:l.length≤i:=List.getElem?_eq_none_iff.1 hx
   rw [List.take_of_length_le (by omega)]
   rw [List.take_of_length_le this] at ih
   exact ih.mono (by omega)
  |some a=>
   rw [List.take_add_one,hx,Option.toList_some,List.foldl_append]
   exact (ih.deed hg.x a (hl a (List.mem_of_getElem? hx)) (by omega)).mono (by omega)
theorem splays_good {g:SGuest} (hg:SGuestOk g) {l:List SDeed} (hl:SmallSDeeds l):SGood 1800 (splays g l):=sdeeds_good hg hl 30 (by decide)
theorem slooks_now (x:Part) (s:Seat):(slooks x s).k.now=s.k.now:=by
 unfold slooks
 split
 · rfl
 · split
   · rfl
   · split
     · exact reset_now _ _
     · rfl
theorem scycle_now {n:Nat} {x:Part} {s:Seat} (h:SGood n s) (hb:n≤1000000) (h1:s.st=1):(scycle x s).k.now=s.k.now + 1:=by
 unfold scycle
 rw [if_pos h1,slooks_now]
 exact step_nw h.k h.nw hb
theorem scycle_stays {x:Part} {s:Seat} (h:s.st ≠ 1):scycle x s=s:=if_neg h
theorem swindow_stays {s:Seat} (h:s.st ≠ 2):swindow s=s:=if_neg h
end Kn
end Go.Proofs.YthgehdghihbiaaaGreatDoor
namespace Go.Proofs.YthgehdghihbiaaaGreatDoor
open Go.RowKit KR RegT3
namespace Kn
theorem aggPart:Agg Tryz.prog 96 4:=agg_of Tryz.underlying96 rfl (by kernel_rfl)
theorem aggSeat:Agg Tryz.prog 72 19:=agg_of Tryz.underlying72 rfl (by kernel_rfl)
theorem aggSWork:Agg Tryz.prog 164 23:=agg_of Tryz.underlying164 rfl (by kernel_rfl)
def scells (y:Lay) (s:Seat):Array Value:=#[y.p,y.t,.int .i64 s.k.t.left,y.s,y.pi,.int .i64 s.k.hs,y.h,.int .u64 s.k.now,y.im,y.ou,y.ins_,y.bx,.string s.k.cons,y.tr,y.se,.int .i64 s.k.want,.int .i64 s.k.gone,.int .i64 s.st,.int .i64 s.boots]
def wcells (y:Lay) (s:Seat) (x:Part):Array Value:=#[y.p,y.t,.int .i64 s.k.t.left,y.s,y.pi,.int .i64 s.k.hs,y.h,.int .u64 s.k.now,y.im,y.ou,y.ins_,y.bx,.string s.k.cons,y.tr,y.se,.int .i64 s.k.want,.int .i64 s.k.gone,.int .i64 s.st,.int .i64 s.boots,.int .i64 x.mem,.int .i64 x.a1,.int .i64 x.a2,.int .i64 x.a3]
theorem wcells_kern (y:Lay) (s:Seat) (x:Part):(wcells y s x).extract 0 (0 + 17)=kcells y s.k:=by
 unfold wcells kcells
 simp
theorem wcells_seat (y:Lay) (s:Seat) (x:Part):(wcells y s x).extract 0 (0 + 19)=scells y s:=by
 unfold wcells scells
 simp
theorem scells_kern (y:Lay) (s:Seat):(scells y s).extract 0 (0 + 17)=kcells y s.k:=by
 unfold scells kcells
 simp
def SeatV (W:World) (v:Value) (s:Seat):Prop:=∃ y bs,v=.agg (scells y s)∧LayAt W y bs s.k
def GivesS (s:Seat) (w:World) (e:Ending) (w':World):Prop:=∃ v,e=.returned v∧SeatV w' v s∧Below w.heap.size w w'
theorem SeatV.below {W W':World} {v:Value} {s:Seat} (h:SeatV W v s) (hb:Below W.heap.size W W'):SeatV W' v s:=by
 obtain ⟨y,bs,rfl,hl⟩:=h
 exact ⟨y,bs,rfl,hl.below hb⟩
theorem onesS {W:World} {y:Lay} {bs:List BoxV} {s:Seat} (h:LayAt W y bs s.k):∀ u ∈ (Value.agg (scells y s)).cells.toList,u.oneCell'=true:=by
 intro u hu
 have hk:=onesK h
 simp only [Value.cells,kcells,scells,List.mem_cons,List.not_mem_nil,or_false] at hu hk
 rcases hu with rfl|rfl|rfl|rfl|rfl|rfl|rfl|rfl|rfl|rfl|rfl|rfl|rfl|rfl|rfl|rfl|rfl|rfl|rfl <;> first|rfl|exact hk _ (by simp)
theorem onesPart (x:Part):∀ u ∈ (Value.agg x.cells).cells.toList,u.oneCell'=true:=by
 intro u hu
 simp only [Value.cells,Part.cells,List.mem_cons,List.not_mem_nil,or_false] at hu
 rcases hu with rfl|rfl|rfl|rfl <;> rfl
theorem noSeat:noRow 72:=by decide
theorem noSWork:noRow 164:=by decide
def GivesL (b:Nat) (x:Part) (s:Seat) (w:World) (e:Ending) (w':World):Prop:=(∃ v,e=.returned v)∧(∃ y bs,w'.heap[b]? =some (.cells (wcells y s x) 164 (0,0))∧LayAt w' y bs s.k)∧KR.Kept b w w'
theorem act_cell (yk:Lay) (s:Seat) (x:Part) {j:Nat} (hj:j<3):(wcells yk s x)[20 + j]? =some (.int .i64 (x.act ((j:Int) + 1))):=by
 rcases (by omega:j=0∨j=1∨j=2) with rfl|rfl|rfl <;> rfl
theorem WLooksA (b:Nat) (x:Part) (s:Seat) (w:World) (yk:Lay) (bs:List BoxV) (hk0:w.heap[b]? =some (.cells (wcells yk s x) 164 (0,0))) (hl:LayAt w yk bs s.k) (h0:s.k.gone=0):
 Calls Tryz.prog 62 #[.pointer (some ⟨b,0,none⟩)] w (GivesL b x s w):=by
 have HK_0:Hid (w.heap[b]? =some (.cells (wcells yk s x) 164 (0,0))):=hU hk0
 have HE_0:Hid (KR.Kept b w w):=hU (KR.Kept.refl b w)
 have HL_0:=hU hl
 have hz0:=Nat.le_refl w.heap.size
 have hzK:=hlt hk0
 have f16:w.cell? ⟨b,16,none⟩=some (.int .i64 s.k.gone):=hcell HK_0.out 16
 have f17:w.cell? ⟨b,17,none⟩=some (.int .i64 s.st):=hcell HK_0.out 17
 have b1:(s.k.gone==0)=true:=by simp [h0]
 clear h0
 clear hk0 hl
 go_enter Tryz.func62,Tryz.ntmps62
 repeat' (first|go_values|go_skip|go_guarded|(with_reducible refine wg ?_)|go_step|go_upon)
 go_end0
 exact ⟨⟨_,rfl⟩,⟨_,_,HK_0.out,HL_0.out⟩,HE_0.out⟩
theorem WLooksB (b:Nat) (x:Part) (s:Seat) (w:World) (yk:Lay) (bs:List BoxV) (hk0:w.heap[b]? =some (.cells (wcells yk s x) 164 (0,0))) (hl:LayAt w yk bs s.k) (h0:s.k.gone ≠ 0) (h3:s.st=3):
 Calls Tryz.prog 62 #[.pointer (some ⟨b,0,none⟩)] w (GivesL b x s w):=by
 have HK_0:Hid (w.heap[b]? =some (.cells (wcells yk s x) 164 (0,0))):=hU hk0
 have HE_0:Hid (KR.Kept b w w):=hU (KR.Kept.refl b w)
 have HL_0:=hU hl
 have hz0:=Nat.le_refl w.heap.size
 have hzK:=hlt hk0
 have f16:w.cell? ⟨b,16,none⟩=some (.int .i64 s.k.gone):=hcell HK_0.out 16
 have f17:w.cell? ⟨b,17,none⟩=some (.int .i64 s.st):=hcell HK_0.out 17
 have b1:(s.k.gone==0)=false:=by simp [h0]
 have b2:(s.st==3)=true:=by simp [h3]
 clear h0 h3
 clear hk0 hl
 go_enter Tryz.func62,Tryz.ntmps62
 repeat' (first|go_values|go_skip|go_guarded|(with_reducible refine wg ?_)|go_step|go_upon)
 go_end0
 exact ⟨⟨_,rfl⟩,⟨_,_,HK_0.out,HL_0.out⟩,HE_0.out⟩
theorem WLooksC (b:Nat) (x:Part) (s:Seat) (w:World) (yk:Lay) (bs:List BoxV) (hk0:w.heap[b]? =some (.cells (wcells yk s x) 164 (0,0))) (hl:LayAt w yk bs s.k) (h0:s.k.gone ≠ 0) (h3:s.st ≠ 3) (h1:s.k.gone<1):
 Calls Tryz.prog 62 #[.pointer (some ⟨b,0,none⟩)] w (GivesL b x s w):=by
 have HK_0:Hid (w.heap[b]? =some (.cells (wcells yk s x) 164 (0,0))):=hU hk0
 have HE_0:Hid (KR.Kept b w w):=hU (KR.Kept.refl b w)
 have HL_0:=hU hl
 have hz0:=Nat.le_refl w.heap.size
 have hzK:=hlt hk0
 have f16:w.cell? ⟨b,16,none⟩=some (.int .i64 s.k.gone):=hcell HK_0.out 16
 have f17:w.cell? ⟨b,17,none⟩=some (.int .i64 s.st):=hcell HK_0.out 17
 have b1:(s.k.gone==0)=false:=by simp [h0]
 have b2:(s.st==3)=false:=by simp [h3]
 have b3:decide (1≤s.k.gone)=false:=by simp;omega
 clear h0 h3 h1
 clear hk0 hl
 go_enter Tryz.func62,Tryz.ntmps62
 repeat' (first|go_values|go_skip|go_guarded|(with_reducible refine wg ?_)|go_step|go_upon)
 go_end0
 exact ⟨⟨_,rfl⟩,⟨_,_,HK_0.out,HL_0.out⟩,HE_0.out⟩
theorem WLooksD (b:Nat) (x:Part) (s:Seat) (w:World) (yk:Lay) (bs:List BoxV) (hk0:w.heap[b]? =some (.cells (wcells yk s x) 164 (0,0))) (hl:LayAt w yk bs s.k) (h0:s.k.gone ≠ 0) (h3:s.st ≠ 3) (h1:3<s.k.gone):
 Calls Tryz.prog 62 #[.pointer (some ⟨b,0,none⟩)] w (GivesL b x s w):=by
 have HK_0:Hid (w.heap[b]? =some (.cells (wcells yk s x) 164 (0,0))):=hU hk0
 have HE_0:Hid (KR.Kept b w w):=hU (KR.Kept.refl b w)
 have HL_0:=hU hl
 have hz0:=Nat.le_refl w.heap.size
 have hzK:=hlt hk0
 have f16:w.cell? ⟨b,16,none⟩=some (.int .i64 s.k.gone):=hcell HK_0.out 16
 have f17:w.cell? ⟨b,17,none⟩=some (.int .i64 s.st):=hcell HK_0.out 17
 have b1:(s.k.gone==0)=false:=by simp [h0]
 have b2:(s.st==3)=false:=by simp [h3]
 have b3:decide (1≤s.k.gone)=true:=by simp;omega
 have b4:decide (s.k.gone≤3)=false:=by simp;omega
 clear h0 h3 h1
 clear hk0 hl
 go_enter Tryz.func62,Tryz.ntmps62
 repeat' (first|go_values|go_skip|go_guarded|(with_reducible refine wg ?_)|go_step|go_upon)
 go_end0
 exact ⟨⟨_,rfl⟩,⟨_,_,HK_0.out,HL_0.out⟩,HE_0.out⟩
theorem WLooksE (b:Nat) (x:Part) (s:Seat) (w:World) (yk:Lay) (bs:List BoxV) (hk0:w.heap[b]? =some (.cells (wcells yk s x) 164 (0,0))) (hl:LayAt w yk bs s.k) (j:Nat) (hj:s.k.gone=(j:Int) + 1) (hj3:j<3) (h3:s.st ≠ 3) (a:Int) (ha:x.act s.k.gone=a) (h4:a ≠ 2) (h5:a ≠ 3):
 Calls Tryz.prog 62 #[.pointer (some ⟨b,0,none⟩)] w (GivesL b x s w):=by
 have HK_0:Hid (w.heap[b]? =some (.cells (wcells yk s x) 164 (0,0))):=hU hk0
 have HE_0:Hid (KR.Kept b w w):=hU (KR.Kept.refl b w)
 have HL_0:=hU hl
 have hz0:=Nat.le_refl w.heap.size
 have hzK:=hlt hk0
 have f16:w.cell? ⟨b,16,none⟩=some (.int .i64 s.k.gone):=hcell HK_0.out 16
 have f17:w.cell? ⟨b,17,none⟩=some (.int .i64 s.st):=hcell HK_0.out 17
 have b1:(s.k.gone==0)=false:=by simp;omega
 have b2:(s.st==3)=false:=by simp [h3]
 have b3:decide (1≤s.k.gone)=true:=by simp;omega
 have b4:decide (s.k.gone≤3)=true:=by simp;omega
 have hw:IntKind.i64.wrap (s.k.gone - 1)=(j:Int):=by rw [IntKind.wrap_i64];omega
 have CA:Hid (∀ W:World,W.heap[b]? =some (.cells (wcells yk s x) 164 (0,0))→W.cell? ⟨b,20 + j,none⟩=some (.int .i64 a)):=hU (fun W h=> by rw [hcell h,act_cell yk s x hj3,← hj,ha])
 have hi0:(0:Int)≤(j:Int):=by omega
 have hi3:(j:Int)<3:=by omega
 have b5:(a==2)=false:=by simp [h4]
 have b6:(a==3)=false:=by simp [h5]
 clear h4 h5
 clear hj ha h3 hk0 hl
 go_enter Tryz.func62,Tryz.ntmps62
 repeat' (first|go_values|go_skip|go_guarded|(with_reducible refine wg ?_)|go_step|go_upon)
 refine wp_region_noPanic ?_
 refine go0 (S:=fun W=> (W.cell? ⟨b,16,none⟩=some (.int .i64 s.k.gone))∧(W.cell? ⟨b,20 + j,none⟩=some (.int .i64 a))) [] (⟨hcell HK_0.out 16,CA.out _ HK_0.out⟩) fun hS=> ?_
 obtain ⟨W1,hWd⟩:=exW w.drew
 have HK_1:=dB hWd HK_0
 have HE_1:=dE hWd HE_0
 have HL_1:=dL hWd HL_0
 rw [hWd] at hS ⊢
 clear hWd
 clear HK_0 HE_0 HL_0
 refine tp 0 ?_;try simp only [acts]
 refine tp 1 ?_;try simp only [acts]
 refine tp 2 ?_;try simp only [acts]
 refine tp 3 ?_;try simp only [acts]
 refine tp 4 ?_;try simp only [acts]
 refine tp 5 ?_;try simp only [acts]
 refine tl 6 ?_;try simp only [acts]
 refine tp 7 ?_;try simp only [acts]
 refine tp 8 ?_;try simp only [acts]
 refine tp 9 ?_;try simp only [acts]
 refine tp 10 ?_;try simp only [acts]
 refine tp 11 ?_;try simp only [acts]
 refine tl 12 ?_;try simp only [acts]
 refine tp 13 ?_;try simp only [acts]
 refine doneL (by kernel_rfl) (NoPanic.normal ?_) _
 try clear hS
 repeat' (first|go_values|go_skip|go_guarded|(with_reducible refine wg ?_)|go_step|go_upon)
 all_goals go_end0
 all_goals exact ⟨⟨_,rfl⟩,⟨_,_,HK_1.out,HL_1.out⟩,HE_1.out⟩
theorem WLooksF (b:Nat) (x:Part) (s:Seat) (w:World) (yk:Lay) (bs:List BoxV) (hk0:w.heap[b]? =some (.cells (wcells yk s x) 164 (0,0))) (hl:LayAt w yk bs s.k) (j:Nat) (hj:s.k.gone=(j:Int) + 1) (hj3:j<3) (h3:s.st ≠ 3) (a:Int) (ha:x.act s.k.gone=a) (h4:a=2):
 Calls Tryz.prog 62 #[.pointer (some ⟨b,0,none⟩)] w (GivesL b x {s with st:=3} w):=by
 have HK_0:Hid (w.heap[b]? =some (.cells (wcells yk s x) 164 (0,0))):=hU hk0
 have HE_0:Hid (KR.Kept b w w):=hU (KR.Kept.refl b w)
 have HL_0:=hU hl
 have hz0:=Nat.le_refl w.heap.size
 have hzK:=hlt hk0
 have f16:w.cell? ⟨b,16,none⟩=some (.int .i64 s.k.gone):=hcell HK_0.out 16
 have f17:w.cell? ⟨b,17,none⟩=some (.int .i64 s.st):=hcell HK_0.out 17
 have b1:(s.k.gone==0)=false:=by simp;omega
 have b2:(s.st==3)=false:=by simp [h3]
 have b3:decide (1≤s.k.gone)=true:=by simp;omega
 have b4:decide (s.k.gone≤3)=true:=by simp;omega
 have hw:IntKind.i64.wrap (s.k.gone - 1)=(j:Int):=by rw [IntKind.wrap_i64];omega
 have CA:Hid (∀ W:World,W.heap[b]? =some (.cells (wcells yk s x) 164 (0,0))→W.cell? ⟨b,20 + j,none⟩=some (.int .i64 a)):=hU (fun W h=> by rw [hcell h,act_cell yk s x hj3,← hj,ha])
 have hi0:(0:Int)≤(j:Int):=by omega
 have hi3:(j:Int)<3:=by omega
 have b5:(a==2)=true:=by simp [h4]
 clear h4
 clear hj ha h3 hk0 hl
 go_enter Tryz.func62,Tryz.ntmps62
 repeat' (first|go_values|go_skip|go_guarded|(with_reducible refine wg ?_)|go_step|go_upon)
 refine wp_region_noPanic ?_
 refine go0 (S:=fun W=> (W.cell? ⟨b,16,none⟩=some (.int .i64 s.k.gone))∧(W.cell? ⟨b,20 + j,none⟩=some (.int .i64 a))) [] (⟨hcell HK_0.out 16,CA.out _ HK_0.out⟩) fun hS=> ?_
 obtain ⟨W1,hWd⟩:=exW w.drew
 have HK_1:=dB hWd HK_0
 have HE_1:=dE hWd HE_0
 have HL_1:=dL hWd HL_0
 rw [hWd] at hS ⊢
 clear hWd
 clear HK_0 HE_0 HL_0
 refine tp 0 ?_;try simp only [acts]
 refine tp 1 ?_;try simp only [acts]
 refine tp 2 ?_;try simp only [acts]
 refine tp 3 ?_;try simp only [acts]
 refine tp 4 ?_;try simp only [acts]
 refine tp 5 ?_;try simp only [acts]
 refine tl 6 ?_;try simp only [acts]
 refine tp 7 ?_;try simp only [acts]
 refine tp 8 ?_;try simp only [acts]
 refine tp 9 ?_;try simp only [acts]
 refine tp 10 ?_;try simp only [acts]
 refine tp 11 ?_;try simp only [acts]
 refine tl 12 ?_;try simp only [acts]
 refine tp 13 ?_;try simp only [acts]
 refine doneL (by kernel_rfl) (NoPanic.normal ?_) _
 try clear hS
 repeat' (first
  |(refine wpList_store1 (t:=3) (v:=.int .i64 3) (off:=17) (new:=wcells yk {s with st:=3} x) rfl rfl rfl rfl oneInt HK_1.out rfl rfl (show 17 + 1≤23 by decide) rfl ?_;intro W2 hp
    have HL_2:Hid (LayAt W2 yk bs s.k):=hU ((HL_1.out).put HK_1.out noSWork hp)
    have HE_2:=pK hp HE_1
    have HK_2:Hid (W2.heap[b]? =some (.cells (wcells yk {s with st:=3} x) 164 (0,0))):=pA hp
    clear hp
    clear HK_1 HE_1 HL_1)
  |go_values|go_skip|go_guarded|(with_reducible refine wg ?_)|go_step|go_upon)
 go_end0
 exact ⟨⟨_,rfl⟩,⟨_,_,HK_2.out,HL_2.out⟩,HE_2.out⟩
theorem WLooksG (b:Nat) (x:Part) (s:Seat) (w:World) (yk:Lay) (bs:List BoxV) (hk0:w.heap[b]? =some (.cells (wcells yk s x) 164 (0,0))) (hl:LayAt w yk bs s.k) (j:Nat) (hj:s.k.gone=(j:Int) + 1) (hj3:j<3) (h3:s.st ≠ 3) (a:Int) (ha:x.act s.k.gone=a) (h4:a=3) (m0: -9223372036854775808≤x.mem) (m1:x.mem≤9223372036854775807) (g1:s.k.images.length≤8796093022207) (g2:s.k.outs.length≤1000000) (g3:s.k.ins_.length≤1000000) (o0:0≤s.boots) (o1:s.boots≤1000000000):
 Calls Tryz.prog 62 #[.pointer (some ⟨b,0,none⟩)] w (GivesL b x {s with k:=reset x.mem s.k,boots:=s.boots + 1} w):=by
 have HK_0:Hid (w.heap[b]? =some (.cells (wcells yk s x) 164 (0,0))):=hU hk0
 have HE_0:Hid (KR.Kept b w w):=hU (KR.Kept.refl b w)
 have HL_0:=hU hl
 have hz0:=Nat.le_refl w.heap.size
 have hzK:=hlt hk0
 have f16:w.cell? ⟨b,16,none⟩=some (.int .i64 s.k.gone):=hcell HK_0.out 16
 have f17:w.cell? ⟨b,17,none⟩=some (.int .i64 s.st):=hcell HK_0.out 17
 have b1:(s.k.gone==0)=false:=by simp;omega
 have b2:(s.st==3)=false:=by simp [h3]
 have b3:decide (1≤s.k.gone)=true:=by simp;omega
 have b4:decide (s.k.gone≤3)=true:=by simp;omega
 have hw:IntKind.i64.wrap (s.k.gone - 1)=(j:Int):=by rw [IntKind.wrap_i64];omega
 have CA:Hid (∀ W:World,W.heap[b]? =some (.cells (wcells yk s x) 164 (0,0))→W.cell? ⟨b,20 + j,none⟩=some (.int .i64 a)):=hU (fun W h=> by rw [hcell h,act_cell yk s x hj3,← hj,ha])
 have hi0:(0:Int)≤(j:Int):=by omega
 have hi3:(j:Int)<3:=by omega
 have b5:(a==2)=false:=by simp [h4]
 have b6:(a==3)=true:=by simp [h4]
 have hwb:IntKind.i64.wrap (s.boots + 1)=s.boots + 1:=by rw [IntKind.wrap_i64];omega
 clear h4
 clear hj ha h3 hk0 hl
 go_enter Tryz.func62,Tryz.ntmps62
 repeat' (first|go_values|go_skip|go_guarded|(with_reducible refine wg ?_)|go_step|go_upon)
 refine wp_region_noPanic ?_
 refine go0 (S:=fun W=> (W.cell? ⟨b,16,none⟩=some (.int .i64 s.k.gone))∧(W.cell? ⟨b,20 + j,none⟩=some (.int .i64 a))) [] (⟨hcell HK_0.out 16,CA.out _ HK_0.out⟩) fun hS=> ?_
 obtain ⟨W1,hWd⟩:=exW w.drew
 have HK_1:=dB hWd HK_0
 have HE_1:=dE hWd HE_0
 have HL_1:=dL hWd HL_0
 rw [hWd] at hS ⊢
 clear hWd
 clear HK_0 HE_0 HL_0
 refine tp 0 ?_;try simp only [acts]
 refine tp 1 ?_;try simp only [acts]
 refine tp 2 ?_;try simp only [acts]
 refine tp 3 ?_;try simp only [acts]
 refine tp 4 ?_;try simp only [acts]
 refine tp 5 ?_;try simp only [acts]
 refine tl 6 ?_;try simp only [acts]
 refine tp 7 ?_;try simp only [acts]
 refine tp 8 ?_;try simp only [acts]
 refine tp 9 ?_;try simp only [acts]
 refine tp 10 ?_;try simp only [acts]
 refine tp 11 ?_;try simp only [acts]
 refine tl 12 ?_;try simp only [acts]
 refine tp 13 ?_;try simp only [acts]
 refine doneL (by kernel_rfl) (NoPanic.normal ?_) _
 try clear hS
 obtain ⟨abV,hab,hab1V⟩:=nb0 HE_1
 have habKV:=nlt HK_1 hab
 have HKL:=HK_1
 obtain ⟨W2,hWn,hba,HV_2⟩:=nb1 (.cells #[.slice none 0 0,.slice none 0 0,.int .i64 0,.slice none 0 0,.slice none 0 0,.int .i64 0,.slice none 0 0,.int .u64 0,.slice none 0 0,.slice none 0 0,.slice none 0 0,.slice none 0 0,.string ⟨#[]⟩,.slice none 0 0,.slice none 0 0,.int .i64 0,.int .i64 0] 70) hab
 have HK_2:=nB hba HK_1
 have HE_2:=nE hba HE_1
 have HL_2:=nL hba HL_1
 clear HK_1 HE_1 HL_1
 clear hba
 repeat' (first
  |(rw [hWn,hab];clear hWn hab)
  |(refine wpList_load (t:=70) (v:=.agg (kcells yk s.k)) rfl rfl rfl (run_load_part aggKern HKL.out (wcells_kern _ _ _) rfl) ?_)
  |(refine wpList_store (t:=70) (v:=.agg (kcells yk s.k)) (off:=0) (new:=(kcells yk s.k)) rfl rfl rfl rfl aggKern.size HV_2.out rfl (show 0 + 17≤17 by decide) (onesK HL_2.out) rfl ?_;intro W3 hp
    have HE_3:=pE hp HE_2
    have HL_3:=pL hp HV_2 HL_2
    have HV_3:=pA hp
    have HK_3:=pT hp HV_2 HK_2
    clear hp
    clear HK_2 HV_2 HE_2 HL_2)
  |go_values|go_skip|go_guarded|(with_reducible refine wg ?_)|go_step|go_upon)
 clear HKL
 have LO_3:=hU HL_3.out
 refine wp_region_noPanic ?_
 refine go0 (S:=fun W=> (W.cell? ⟨b,19,none⟩=some (.int .i64 x.mem))∧(W.cell? ⟨abV,8,none⟩=some yk.im)∧(W.cell? ⟨abV,9,none⟩=some yk.ou)∧(W.cell? ⟨abV,10,none⟩=some yk.ins_)∧(W.cell? ⟨abV,7,none⟩=some (.int .u64 s.k.now))) [18] (⟨hcell HK_3.out 19,hcell HV_3.out 8,hcell HV_3.out 9,hcell HV_3.out 10,hcell HV_3.out 7⟩) fun hS=> ?_
 obtain ⟨W4,hWd⟩:=exW W3.drew
 have HK_4:=dB hWd HK_3
 have HV_4:=dB hWd HV_3
 have HE_4:=dE hWd HE_3
 have HL_4:=dL hWd HL_3
 have LO_4:=dL hWd LO_3
 rw [hWd] at hS ⊢
 clear hWd
 clear HK_3 HV_3 HE_3 HL_3 LO_3
 refine tp 0 ?_;try simp only [acts]
 refine tp 1 ?_;try simp only [acts]
 refine tp 2 ?_;try simp only [acts]
 refine tp 3 ?_;try simp only [acts]
 refine tp 4 ?_;try simp only [acts]
 refine tl 5 ?_;try simp only [acts]
 refine tp 6 ?_;try simp only [acts]
 refine tl 7 ?_;try simp only [acts]
 refine tp 8 ?_;try simp only [acts]
 refine tl 9 ?_;try simp only [acts]
 refine tp 10 ?_;try simp only [acts]
 refine tl 11 ?_;try simp only [acts]
 refine tp 12 ?_;try simp only [acts]
 refine tl 13 ?_;try simp only [acts]
 refine ro 14 fun K hK=> ?_
 refine want rfl ?_
 go_simp
 refine (SBoot x.mem yk.im yk.ou yk.ins_ s.k.images s.k.outs s.k.ins_ s.k.now _ HL_4.out.im.rd HL_4.out.ou.rd HL_4.out.ins_.rd g1 g2 g3 m0 m1).mono ?_
 rintro er W5 ⟨v2,rfl,⟨y2,bs2,rfl,hl2⟩,hb⟩
 have HK_5:=nB hb HK_4
 have HV_5:=nB hb HV_4
 have HE_5:=nE hb HE_4
 have HL_5:=nL hb HL_4
 have LO_5:=nL hb LO_4
 clear HK_4 HV_4 HE_4 HL_4 LO_4
 clear hb
 dsimp only
 try clear hS
 refine nx hK (⟨hcell HK_5.out 19,hcell HV_5.out 8,hcell HV_5.out 9,hcell HV_5.out 10,hcell HV_5.out 7⟩) fun hS=> ?_
 clear hK K
 (try simp only [acts])
 refine tp 15 ?_;try simp only [acts]
 refine tp 16 ?_;try simp only [acts]
 refine tp 17 ?_;try simp only [acts]
 clear HL_5
 have HL_5:=hU hl2
 clear hl2
 refine ro 18 fun K hK=> ?_
 refine want rfl ?_
 refine wp_store (v:=.agg (kcells y2 (boot x.mem s.k.images s.k.outs s.k.ins_ s.k.now))) (off:=0) (new:=wcells y2 {s with k:=(boot x.mem s.k.images s.k.outs s.k.ins_ s.k.now)} x) rfl rfl rfl aggKern.size HK_5.out rfl (show 0 + 17≤23 by decide) (onesK HL_5.out) rfl ?_
 intro W6 hp
 have HL_6:Hid (LayAt W6 y2 bs2 (boot x.mem s.k.images s.k.outs s.k.ins_ s.k.now)):=hU ((HL_5.out).put HK_5.out noSWork hp)
 have HE_6:=pK hp HE_5
 have HK_6:Hid (W6.heap[b]? =some (.cells (wcells y2 {s with k:=(boot x.mem s.k.images s.k.outs s.k.ins_ s.k.now)} x) 164 (0,0))):=pA hp
 have HV_6:=pT hp HK_5 HV_5
 have LO_6:=pL hp HK_5 LO_5 noSWork
 clear hp
 clear HK_5 HV_5 HE_5 HL_5 LO_5
 refine nt hK ?_
 clear hK K
 try clear hS
 (try simp only [acts])
 refine doneL (by kernel_rfl) (NoPanic.normal ?_) _
 try clear hS
 repeat' (first|go_values|go_skip|go_guarded|(with_reducible refine wg ?_)|go_step|go_upon)
 refine wp_region_noPanic ?_
 refine go0 (S:=fun W=> (W.cell? ⟨abV,11,none⟩=some yk.bx)∧(W.cell? ⟨abV,12,none⟩=some (.string s.k.cons))∧(W.cell? ⟨abV,13,none⟩=some yk.tr)∧(W.cell? ⟨abV,14,none⟩=some yk.se)∧(W.cell? ⟨abV,15,none⟩=some (.int .i64 s.k.want))) [] (⟨hcell HV_6.out 11,hcell HV_6.out 12,hcell HV_6.out 13,hcell HV_6.out 14,hcell HV_6.out 15⟩) fun hS=> ?_
 obtain ⟨W7,hWd⟩:=exW W6.drew
 have HK_7:=dB hWd HK_6
 have HV_7:=dB hWd HV_6
 have HE_7:=dE hWd HE_6
 have HL_7:=dL hWd HL_6
 have LO_7:=dL hWd LO_6
 rw [hWd] at hS ⊢
 clear hWd
 clear HK_6 HV_6 HE_6 HL_6 LO_6
 refine tp 0 ?_;try simp only [acts]
 refine tp 1 ?_;try simp only [acts]
 refine tp 2 ?_;try simp only [acts]
 refine tp 3 ?_;try simp only [acts]
 refine tp 4 ?_;try simp only [acts]
 refine tp 5 ?_;try simp only [acts]
 refine tl 6 ?_;try simp only [acts]
 refine tp 7 ?_;try simp only [acts]
 refine tl 8 ?_;try simp only [acts]
 refine tp 9 ?_;try simp only [acts]
 refine tl 10 ?_;try simp only [acts]
 refine tp 11 ?_;try simp only [acts]
 refine tl 12 ?_;try simp only [acts]
 refine tp 13 ?_;try simp only [acts]
 refine tl 14 ?_;try simp only [acts]
 refine tp 15 ?_;try simp only [acts]
 refine tp 16 ?_;try simp only [acts]
 refine tp 17 ?_;try simp only [acts]
 refine tp 18 ?_;try simp only [acts]
 refine ro 19 fun K hK=> ?_
 refine want rfl ?_
 refine wp_store1 (v:=yk.bx) (off:=11) (new:=wcells {y2 with bx:=yk.bx} {s with k:={(boot x.mem s.k.images s.k.outs s.k.ins_ s.k.now) with box:=bs.map (fun q=> q.b)}} x) rfl rfl rfl oneSBox HK_7.out LO_7.out.bx.vcells LO_7.out.bx.vone (show 11 + 1≤23 by decide) rfl ?_
 intro W8 hp
 have HL_8:Hid (LayAt W8 {y2 with bx:=yk.bx} bs {(boot x.mem s.k.images s.k.outs s.k.ins_ s.k.now) with box:=bs.map (fun q=> q.b)}):=hU ((HL_7.out.setBx LO_7.out.bx LO_7.out.ok).put HK_7.out noSWork hp)
 have HE_8:=pK hp HE_7
 have HK_8:Hid (W8.heap[b]? =some (.cells (wcells {y2 with bx:=yk.bx} {s with k:={(boot x.mem s.k.images s.k.outs s.k.ins_ s.k.now) with box:=bs.map (fun q=> q.b)}} x) 164 (0,0))):=pA hp
 have HV_8:=pT hp HK_7 HV_7
 have LO_8:=pL hp HK_7 LO_7 noSWork
 clear hp
 clear HK_7 HV_7 HE_7 HL_7 LO_7
 try clear hS
 refine nx hK (⟨hcell HV_8.out 11,hcell HV_8.out 12,hcell HV_8.out 13,hcell HV_8.out 14,hcell HV_8.out 15⟩) fun hS=> ?_
 clear hK K
 (try simp only [acts])
 refine tp 20 ?_;try simp only [acts]
 refine tp 21 ?_;try simp only [acts]
 refine tp 22 ?_;try simp only [acts]
 refine tp 23 ?_;try simp only [acts]
 refine ro 24 fun K hK=> ?_
 refine want rfl ?_
 refine wp_store1 (v:=.string s.k.cons) (off:=12) (new:=wcells {y2 with bx:=yk.bx} {s with k:={(boot x.mem s.k.images s.k.outs s.k.ins_ s.k.now) with box:=bs.map (fun q=> q.b),cons:=s.k.cons}} x) rfl rfl rfl oneStr HK_8.out rfl rfl (show 12 + 1≤23 by decide) rfl ?_
 intro W9 hp
 have HL_9:Hid (LayAt W9 {y2 with bx:=yk.bx} bs {(boot x.mem s.k.images s.k.outs s.k.ins_ s.k.now) with box:=bs.map (fun q=> q.b),cons:=s.k.cons}):=hU ((HL_8.out.setCons s.k.cons).put HK_8.out noSWork hp)
 have HE_9:=pK hp HE_8
 have HK_9:Hid (W9.heap[b]? =some (.cells (wcells {y2 with bx:=yk.bx} {s with k:={(boot x.mem s.k.images s.k.outs s.k.ins_ s.k.now) with box:=bs.map (fun q=> q.b),cons:=s.k.cons}} x) 164 (0,0))):=pA hp
 have HV_9:=pT hp HK_8 HV_8
 have LO_9:=pL hp HK_8 LO_8 noSWork
 clear hp
 clear HK_8 HV_8 HE_8 HL_8 LO_8
 try clear hS
 refine nx hK (⟨hcell HV_9.out 11,hcell HV_9.out 12,hcell HV_9.out 13,hcell HV_9.out 14,hcell HV_9.out 15⟩) fun hS=> ?_
 clear hK K
 (try simp only [acts])
 refine tp 25 ?_;try simp only [acts]
 refine tp 26 ?_;try simp only [acts]
 refine tp 27 ?_;try simp only [acts]
 refine tp 28 ?_;try simp only [acts]
 refine ro 29 fun K hK=> ?_
 refine want rfl ?_
 refine wp_store1 (v:=yk.tr) (off:=13) (new:=wcells {y2 with bx:=yk.bx,tr:=yk.tr} {s with k:={(boot x.mem s.k.images s.k.outs s.k.ins_ s.k.now) with box:=bs.map (fun q=> q.b),cons:=s.k.cons,trace:=s.k.trace}} x) rfl rfl rfl oneSEv HK_9.out LO_9.out.tr.vcells LO_9.out.tr.vone (show 13 + 1≤23 by decide) rfl ?_
 intro W10 hp
 have HL_10:Hid (LayAt W10 {y2 with bx:=yk.bx,tr:=yk.tr} bs {(boot x.mem s.k.images s.k.outs s.k.ins_ s.k.now) with box:=bs.map (fun q=> q.b),cons:=s.k.cons,trace:=s.k.trace}):=hU ((HL_9.out.setTr LO_9.out.tr).put HK_9.out noSWork hp)
 have HE_10:=pK hp HE_9
 have HK_10:Hid (W10.heap[b]? =some (.cells (wcells {y2 with bx:=yk.bx,tr:=yk.tr} {s with k:={(boot x.mem s.k.images s.k.outs s.k.ins_ s.k.now) with box:=bs.map (fun q=> q.b),cons:=s.k.cons,trace:=s.k.trace}} x) 164 (0,0))):=pA hp
 have HV_10:=pT hp HK_9 HV_9
 have LO_10:=pL hp HK_9 LO_9 noSWork
 clear hp
 clear HK_9 HV_9 HE_9 HL_9 LO_9
 try clear hS
 refine nx hK (⟨hcell HV_10.out 11,hcell HV_10.out 12,hcell HV_10.out 13,hcell HV_10.out 14,hcell HV_10.out 15⟩) fun hS=> ?_
 clear hK K
 (try simp only [acts])
 refine tp 30 ?_;try simp only [acts]
 refine tp 31 ?_;try simp only [acts]
 refine tp 32 ?_;try simp only [acts]
 refine tp 33 ?_;try simp only [acts]
 refine ro 34 fun K hK=> ?_
 refine want rfl ?_
 refine wp_store1 (v:=yk.se) (off:=14) (new:=wcells {y2 with bx:=yk.bx,tr:=yk.tr,se:=yk.se} {s with k:={(boot x.mem s.k.images s.k.outs s.k.ins_ s.k.now) with box:=bs.map (fun q=> q.b),cons:=s.k.cons,trace:=s.k.trace,sent:=s.k.sent}} x) rfl rfl rfl oneSOut HK_10.out LO_10.out.se.vcells LO_10.out.se.vone (show 14 + 1≤23 by decide) rfl ?_
 intro W11 hp
 have HL_11:Hid (LayAt W11 {y2 with bx:=yk.bx,tr:=yk.tr,se:=yk.se} bs {(boot x.mem s.k.images s.k.outs s.k.ins_ s.k.now) with box:=bs.map (fun q=> q.b),cons:=s.k.cons,trace:=s.k.trace,sent:=s.k.sent}):=hU ((HL_10.out.setSe LO_10.out.se).put HK_10.out noSWork hp)
 have HE_11:=pK hp HE_10
 have HK_11:Hid (W11.heap[b]? =some (.cells (wcells {y2 with bx:=yk.bx,tr:=yk.tr,se:=yk.se} {s with k:={(boot x.mem s.k.images s.k.outs s.k.ins_ s.k.now) with box:=bs.map (fun q=> q.b),cons:=s.k.cons,trace:=s.k.trace,sent:=s.k.sent}} x) 164 (0,0))):=pA hp
 have HV_11:=pT hp HK_10 HV_10
 have LO_11:=pL hp HK_10 LO_10 noSWork
 clear hp
 clear HK_10 HV_10 HE_10 HL_10 LO_10
 try clear hS
 refine nx hK (⟨hcell HV_11.out 11,hcell HV_11.out 12,hcell HV_11.out 13,hcell HV_11.out 14,hcell HV_11.out 15⟩) fun hS=> ?_
 clear hK K
 (try simp only [acts])
 refine tp 35 ?_;try simp only [acts]
 refine tp 36 ?_;try simp only [acts]
 refine tp 37 ?_;try simp only [acts]
 refine tp 38 ?_;try simp only [acts]
 refine ro 39 fun K hK=> ?_
 refine want rfl ?_
 refine wp_store1 (v:=.int .i64 s.k.want) (off:=15) (new:=wcells {y2 with bx:=yk.bx,tr:=yk.tr,se:=yk.se} {s with k:={(boot x.mem s.k.images s.k.outs s.k.ins_ s.k.now) with box:=bs.map (fun q=> q.b),cons:=s.k.cons,trace:=s.k.trace,sent:=s.k.sent,want:=s.k.want}} x) rfl rfl rfl oneInt HK_11.out rfl rfl (show 15 + 1≤23 by decide) rfl ?_
 intro W12 hp
 have HL_12:Hid (LayAt W12 {y2 with bx:=yk.bx,tr:=yk.tr,se:=yk.se} bs {(boot x.mem s.k.images s.k.outs s.k.ins_ s.k.now) with box:=bs.map (fun q=> q.b),cons:=s.k.cons,trace:=s.k.trace,sent:=s.k.sent,want:=s.k.want}):=hU ((HL_11.out.setWant s.k.want).put HK_11.out noSWork hp)
 have HE_12:=pK hp HE_11
 have HK_12:Hid (W12.heap[b]? =some (.cells (wcells {y2 with bx:=yk.bx,tr:=yk.tr,se:=yk.se} {s with k:={(boot x.mem s.k.images s.k.outs s.k.ins_ s.k.now) with box:=bs.map (fun q=> q.b),cons:=s.k.cons,trace:=s.k.trace,sent:=s.k.sent,want:=s.k.want}} x) 164 (0,0))):=pA hp
 have HV_12:=pT hp HK_11 HV_11
 have LO_12:=pL hp HK_11 LO_11 noSWork
 clear hp
 clear HK_11 HV_11 HE_11 HL_11 LO_11
 try clear hS
 refine nx hK (⟨hcell HV_12.out 11,hcell HV_12.out 12,hcell HV_12.out 13,hcell HV_12.out 14,hcell HV_12.out 15⟩) fun hS=> ?_
 clear hK K
 (try simp only [acts])
 refine doneL (by kernel_rfl) (NoPanic.normal ?_) _
 try clear hS
 have f18:W12.cell? ⟨b,18,none⟩=some (.int .i64 s.boots):=hcell HK_12.out 18
 repeat' (first
  |(refine wpList_store1 (t:=3) (v:=.int .i64 (s.boots + 1)) (off:=18) (new:=wcells {y2 with bx:=yk.bx,tr:=yk.tr,se:=yk.se} {s with k:={(boot x.mem s.k.images s.k.outs s.k.ins_ s.k.now) with box:=bs.map (fun q=> q.b),cons:=s.k.cons,trace:=s.k.trace,sent:=s.k.sent,want:=s.k.want},boots:=s.boots + 1} x) rfl rfl rfl rfl oneInt HK_12.out rfl rfl (show 18 + 1≤23 by decide) rfl ?_;intro W13 hp
    have HL_13:Hid (LayAt W13 {y2 with bx:=yk.bx,tr:=yk.tr,se:=yk.se} bs {(boot x.mem s.k.images s.k.outs s.k.ins_ s.k.now) with box:=bs.map (fun q=> q.b),cons:=s.k.cons,trace:=s.k.trace,sent:=s.k.sent,want:=s.k.want}):=hU ((HL_12.out).put HK_12.out noSWork hp)
    have HE_13:=pK hp HE_12
    have HK_13:Hid (W13.heap[b]? =some (.cells (wcells {y2 with bx:=yk.bx,tr:=yk.tr,se:=yk.se} {s with k:={(boot x.mem s.k.images s.k.outs s.k.ins_ s.k.now) with box:=bs.map (fun q=> q.b),cons:=s.k.cons,trace:=s.k.trace,sent:=s.k.sent,want:=s.k.want},boots:=s.boots + 1} x) 164 (0,0))):=pA hp
    have HV_13:=pT hp HK_12 HV_12
    have LO_13:=pL hp HK_12 LO_12 noSWork
    clear hp
    clear HK_12 HV_12 HE_12 HL_12 LO_12)
  |go_values|go_skip|go_guarded|(with_reducible refine wg ?_)|go_step|go_upon)
 go_end0
 have hbse:bs.map (fun q=> q.b)=s.k.box:=LO_13.out.bse
 have hk:=HK_13.out
 have hl:=HL_13.out
 rw [hbse] at hk hl
 exact ⟨⟨_,rfl⟩,⟨_,_,hk,hl⟩,HE_13.out⟩
theorem WLooks (b:Nat) (x:Part) (s:Seat) (w:World) (y:Lay) (bs:List BoxV) (hk0:w.heap[b]? =some (.cells (wcells y s x) 164 (0,0))) (hl:LayAt w y bs s.k) (m0: -9223372036854775808≤x.mem) (m1:x.mem≤9223372036854775807) (g1:s.k.images.length≤8796093022207) (g2:s.k.outs.length≤1000000) (g3:s.k.ins_.length≤1000000) (o0:0≤s.boots) (o1:s.boots≤1000000000):
 Calls Tryz.prog 62 #[.pointer (some ⟨b,0,none⟩)] w (GivesL b x (slooks x s) w):=by
 unfold slooks
 by_cases h0:s.k.gone=0
 · rw [if_pos (.inl h0)]
   exact WLooksA b x s w y bs hk0 hl h0
 by_cases h3:s.st=3
 · rw [if_pos (.inr h3)]
   exact WLooksB b x s w y bs hk0 hl h0 h3
 rw [if_neg (by omega)]
 have hact:¬ (1≤s.k.gone∧s.k.gone≤3)→x.act s.k.gone=0:=fun h=> by
  unfold Part.act
  rw [if_neg (by omega),if_neg (by omega),if_neg (by omega)]
 by_cases h1:s.k.gone<1
 · rw [hact (by omega),if_neg (by decide),if_neg (by decide)]
   exact WLooksC b x s w y bs hk0 hl h0 h3 h1
 by_cases h2:3<s.k.gone
 · rw [hact (by omega),if_neg (by decide),if_neg (by decide)]
   exact WLooksD b x s w y bs hk0 hl h0 h3 h2
 obtain ⟨j,hj⟩:∃ j:Nat,s.k.gone=(j:Int) + 1:=⟨(s.k.gone - 1).toNat,by omega⟩
 by_cases h4:x.act s.k.gone=2
 · rw [if_pos h4]
   exact WLooksF b x s w y bs hk0 hl j hj (by omega) h3 _ h4 rfl
 rw [if_neg h4]
 by_cases h5:x.act s.k.gone=3
 · rw [if_pos h5]
   exact WLooksG b x s w y bs hk0 hl j hj (by omega) h3 _ h5 rfl m0 m1 g1 g2 g3 o0 o1
 · rw [if_neg h5]
   exact WLooksE b x s w y bs hk0 hl j hj (by omega) h3 _ rfl h4 h5
theorem SBegin (x:Part) (iv ov nv:Value) (images:List ByteArray) (outs ins_:List Chan) (w:World) (hi:Rd 1 strCells w iv images) (ho:Rd 5 Chan.cells w ov outs) (hn:Rd 5 Chan.cells w nv ins_) (h1:images.length≤8796093022207) (h2:outs.length≤1000000) (h3:ins_.length≤1000000) (m0: -9223372036854775808≤x.mem) (m1:x.mem≤9223372036854775807):
 Calls Tryz.prog 32 #[.agg x.cells,iv,ov,nv] w (GivesS (sbegin x images outs ins_) w):=by
 obtain ⟨q0,q1⟩:=two_new w w.heap.size (.cells x.cells 96) (.cells #[.slice none 0 0,.slice none 0 0,.int .i64 0,.slice none 0 0,.slice none 0 0,.int .i64 0,.slice none 0 0,.int .u64 0,.slice none 0 0,.slice none 0 0,.slice none 0 0,.slice none 0 0,.string ⟨#[]⟩,.slice none 0 0,.slice none 0 0,.int .i64 0,.int .i64 0,.int .i64 0,.int .i64 0] 72) rfl
 have hb0:Below w.heap.size w ((w.alloc (.cells x.cells 96)).alloc (.cells #[.slice none 0 0,.slice none 0 0,.int .i64 0,.slice none 0 0,.slice none 0 0,.int .i64 0,.slice none 0 0,.int .u64 0,.slice none 0 0,.slice none 0 0,.slice none 0 0,.slice none 0 0,.string ⟨#[]⟩,.slice none 0 0,.slice none 0 0,.int .i64 0,.int .i64 0,.int .i64 0,.int .i64 0] 72)):=bel
 obtain ⟨W0,hW0⟩:=exW ((w.alloc (.cells x.cells 96)).alloc (.cells #[.slice none 0 0,.slice none 0 0,.int .i64 0,.slice none 0 0,.slice none 0 0,.int .i64 0,.slice none 0 0,.int .u64 0,.slice none 0 0,.slice none 0 0,.slice none 0 0,.slice none 0 0,.string ⟨#[]⟩,.slice none 0 0,.slice none 0 0,.int .i64 0,.int .i64 0,.int .i64 0,.int .i64 0] 72))
 rw [hW0] at q0 q1 hb0
 have HA_0:=hU q0
 have HR_0:=hU q1
 have HB_0:=hU hb0
 have e4:=fun W (h:Below w.heap.size w W)=> SBoot x.mem iv ov nv images outs ins_ 0 W (hi.below h) (ho.below h) (hn.below h) h1 h2 h3 m0 m1
 have HST:=hU e4
 obtain ⟨f1,f2,f3,_⟩:=boot_frame x.mem images outs ins_ 0
 obtain ⟨_,_,_,f4,_⟩:=boot_frame x.mem images outs ins_ 0
 have f0:W0.cell? ⟨w.heap.size,0,none⟩=some (.int .i64 x.mem):=hcell HA_0.out 0
 clear q0 q1 hb0 e4
 go_enter Tryz.func32,Tryz.ntmps32
 repeat' (first|(rw [hW0];clear hW0)|go_values|go_skip|go_guarded|(with_reducible refine wg ?_)|go_step|go_upon)
 refine wp_region_noPanic ?_
 refine go0 (S:=fun W=> W.heap[w.heap.size]? =some (.cells x.cells 96 (0,0))∧W.cell? ⟨w.heap.size,0,none⟩=some (.int .i64 x.mem)) [] (⟨HA_0.out,f0⟩) fun hS=> ?_
 have HA_d:Hid (W0.drew.heap[w.heap.size]? =some (.cells x.cells 96 (0,0))):=hU HA_0.out
 have HR_d:Hid (W0.drew.heap[w.heap.size + 1]? =some (.cells #[.slice none 0 0,.slice none 0 0,.int .i64 0,.slice none 0 0,.slice none 0 0,.int .i64 0,.slice none 0 0,.int .u64 0,.slice none 0 0,.slice none 0 0,.slice none 0 0,.slice none 0 0,.string ⟨#[]⟩,.slice none 0 0,.slice none 0 0,.int .i64 0,.int .i64 0,.int .i64 0,.int .i64 0] 72 (0,0))):=hU HR_0.out
 have HB_d:=hU HB_0.out.drew
 clear HA_0 HR_0 HB_0 f0
 refine tp 0 ?_;try simp only [acts]
 refine tl 1 ?_;try simp only [acts]
 refine tp 2 ?_;try simp only [acts]
 refine tp 3 ?_;try simp only [acts]
 refine tp 4 ?_;try simp only [acts]
 refine tv 7 (.agg x.cells) (fun W hSW=> run_val_load rfl rfl (run_load_whole aggPart hSW.1 rfl)) ?_
 (try simp only [acts])
 refine ro 5 fun K hK=> ?_
 refine want rfl ?_
 go_simp
 refine (HST.out _ HB_d.out).mono ?_
 rintro er W1 ⟨v1,rfl,⟨y1,bs1,rfl,hl1⟩,hb1⟩
 have HA_1:=nB hb1 HA_d
 have HR_1:=nB hb1 HR_d
 have HB_1:=hU (HB_d.out.trans (hb1.mono HB_d.out.size))
 have HL_1:=hU hl1
 clear hb1 hl1 HA_d HR_d HB_d HST
 dsimp only
 try clear hS
 refine nx hK (⟨HA_1.out,hcell HA_1.out 0⟩) fun hS=> ?_
 clear hK K
 (try simp only [acts])
 refine tv 6 (.agg (scells y1 ⟨(boot x.mem images outs ins_ 0),1,1⟩)) (fun W hSW=> by kernel_rfl) ?_ (hi:=rfl)
 (try simp only [acts])
 refine tv 8 (.agg (wcells y1 ⟨(boot x.mem images outs ins_ 0),1,1⟩ x)) (fun W hSW=> by kernel_rfl) ?_ (hi:=rfl)
 (try simp only [acts])
 refine ro 9 fun K hK=> ?_
 go_simp
 obtain ⟨b,hab,hbb⟩:∃ b,W1.heap.size=b∧w.heap.size + 1<b:=⟨_,rfl,hlt HR_1.out⟩
 obtain ⟨W2,hWn,hba,HK_2⟩:=nb1 (.cells (wcells y1 ⟨(boot x.mem images outs ins_ 0),1,1⟩ x) 164) hab
 rw [hWn,hab]
 have HR_2:=nB hba HR_1
 have HL_2:Hid (LayAt W2 y1 bs1 (Seat.mk (boot x.mem images outs ins_ 0) 1 1).k):=nL hba HL_1
 have HB_2:=hU (HB_1.out.trans (hba.mono HB_1.out.size))
 have HA_2:=nB hba HA_1
 clear hba hWn hab HR_1 HL_1 HB_1 HA_1
 try clear hS
 refine nx hK (⟨HA_2.out,hcell HA_2.out 0⟩) fun hS=> ?_
 clear hK K HA_2
 (try simp only [acts])
 refine tp 10 ?_;try simp only [acts]
 refine doneL (by kernel_rfl) (NoPanic.normal ?_) _
 try clear hS
 have HE_2:Hid (KR.Kept b w W2):=hU (Kept.of HB_2.out)
 repeat' (first|go_values|go_skip|go_guarded|(with_reducible refine wg ?_)|go_step|go_upon)
 have e5:=WLooks b x ⟨(boot x.mem images outs ins_ 0),1,1⟩ W2 y1 bs1 HK_2.out HL_2.out m0 m1 (by rw [show (Seat.mk (boot x.mem images outs ins_ 0) 1 1).k.images=images from f2];exact h1) (by rw [show (Seat.mk (boot x.mem images outs ins_ 0) 1 1).k.outs=outs from f4];exact h2) (by rw [show (Seat.mk (boot x.mem images outs ins_ 0) 1 1).k.ins_=ins_ from f3];exact h3) (show (0:Int)≤1 by decide) (show (1:Int)≤1000000000 by decide)
 have hsb:slooks x ⟨(boot x.mem images outs ins_ 0),1,1⟩=sbegin x images outs ins_:=rfl
 rw [hsb] at e5
 refine e5.mono ?_
 rintro er W3 ⟨⟨vr,rfl⟩,⟨y3,bs3,hk3,hl3⟩,hke⟩
 have HR_3:=mB hke HR_2
 have HE_3:=mE hke HE_2
 have HK_3:=hU hk3
 have HL_3:=hU hl3
 have HB_3:=hU (Kept.low HE_3.out (by omega))
 clear hke hk3 hl3 HR_2 HE_2 HK_2 HL_2 HB_2 e5
 dsimp only
 repeat' (first
  |(refine wpList_load (t:=72) (v:=.agg (scells y3 (sbegin x images outs ins_))) rfl rfl rfl (run_load_part aggSeat HK_3.out (wcells_seat _ _ _) rfl) ?_)
  |(refine wpList_store (t:=72) (v:=.agg (scells y3 (sbegin x images outs ins_))) (off:=0) (new:=(scells y3 (sbegin x images outs ins_))) rfl rfl rfl rfl aggSeat.size HR_3.out rfl (show 0 + 19≤19 by decide) (onesS HL_3.out) rfl ?_;intro W4 hp
    have HR_4:=pA hp
    have HL_4:=pL hp HR_3 HL_3 noSeat
    have HB_4:=hU (Below.put HB_3.out hp (by omega))
    clear hp HR_3 HL_3 HB_3)
  |go_values|go_skip|go_guarded|(with_reducible refine wg ?_)|go_step|go_upon)
 (try simp only [Exit.inBlock,Exit.then]);refine bodyPost_ret (res_cell Tryz.results32 aggSeat rfl HR_4.out rfl) rfl ?_
 exact ⟨_,rfl,⟨_,_,rfl,HL_4.out⟩,HB_4.out⟩
end Kn
end Go.Proofs.YthgehdghihbiaaaGreatDoor
namespace Go.Proofs.YthgehdghihbiaaaGreatDoor
open Go.RowKit KR
namespace Kn
theorem nbz {n:Nat} {w W:World} (h:Hid (Below n w W)):∃ m,W.heap.size=m∧w.heap.size≤m:=⟨_,rfl,h.out.size⟩
theorem nW {w W W':World} (hb:Below W.heap.size W W') (h:Hid (Below w.heap.size w W)):Hid (Below w.heap.size w W'):=hU (h.out.trans (hb.mono h.out.size))
theorem pW {w W W':World} {g:Nat} {cs:Array Value} {T:TypeId} (hp:Put g cs T W W') (h:Hid (Below w.heap.size w W)) (hg:w.heap.size≤g:=by omega):Hid (Below w.heap.size w W'):=hU (Below.put h.out hp hg)
theorem dWn {w W W':World} {n:Nat} (hd:W.drew=W') (h:Hid (Below n w W)):Hid (Below n w W'):=hU (by rw [← hd];exact h.out.drew)
theorem wpList_loadG {P:Program} {ops:Array Oper} {Q:Exit→Act→World→Prop} {a:Act} {W:World} {rest:List Oper} {o:Oper} {t:TypeId} {x:Operand} (hop:o.op=.load t x) {ad:Addr} {v:Value} (hx:a.eval x=.pointer (some ad)) (hr:(Instr.loadAt t (.pointer (some ad))).run P W=.ok v W)
 (hK:wpList P ops Q rest (a.put o.dst v) W) (hw:Region.wanted o (yielded ops a.tmps)=true:=by rfl):wpList P ops Q (o::rest) a W:=wpList_step fun K hk=> by
 rw [if_pos hw]
 exact wp_load hop hx hr (hk _ _ hK)
end Kn
end Go.Proofs.YthgehdghihbiaaaGreatDoor
