/- ded.Due: the messages that are due, and the others. Conditions: none but what Go can hold. A partition on a machine of its own, in plain Lean. No condition. ded.Run's arrive: what is due arrives. Conditions: few messages; strings that there can be. ded.Run: a partition's run by itself. Conditions: few rows, few messages, few cycles; strings that there can be; the table of the instructions' parts lies there. Rows of events: whether they are the same, whether one begins another one. Conditions: none but what Go can hold. The document's example of layer 17; few. Condition: the table of the instructions' parts lies there. What the laws of layer 17 are asked of, as it comes in. No condition. -/
import Derived.Test.YtkepkcjjenidgaaGreatDoorGTop
import Derived.Test.YtkepkcjjenidgaaGreatDoorGSe0
import Derived.Test.YtkepkcjjenidgaaGreatDoorGSe1
import Derived.Test.YtkepkcjjenidgaaGreatDoorGCard
set_option linter.unusedVariables false
set_option maxRecDepth 100000
set_option maxHeartbeats 8000000
set_option linter.unusedSimpArgs false
namespace Go.Proofs.YtkepkcjjenidgaaGreatDoor
open Go.RowKit KR RegT3
namespace Kn
structure Stamp where
 at_:Int
 port:Int
 body:ByteArray
def Stamp.cells (a:Stamp):Array Value:=#[.int .u64 a.at_,.int .i64 a.port,.string a.body]
instance:Inhabited Stamp:=⟨⟨0,0,ByteArray.empty⟩⟩
def sdue:List Stamp→Int→Nat
 |[],_=> 0
 |a::l,now=> if now<a.at_ then 0 else sdue l now + 1
theorem sdue_le:∀ (l:List Stamp) (now:Int),sdue l now≤l.length
 |[],_=> Nat.le_refl _
 |a::l,now=> by
  unfold sdue
  split
  · exact Nat.zero_le _
  · exact Nat.succ_le_succ (sdue_le l now)
theorem sdue_at:∀ {l:List Stamp} {now:Int} {i:Nat} {a:Stamp},i≤sdue l now→l[i]? =some a→(now<a.at_↔i=sdue l now)
 |b::l,now,0,a,_,hx=> by
  obtain rfl:=Option.some.inj hx
  unfold sdue
  split
  · next h=> exact ⟨fun _=> rfl,fun _=> h⟩
  · next h=> exact ⟨fun h'=> absurd h' h,fun h'=> by omega⟩
 |b::l,now,i + 1,a,hi,hx=> by
  unfold sdue at hi ⊢
  split at hi
  · exact absurd hi (by omega)
  · next h=>
    rw [if_neg h,sdue_at (l:=l) (now:=now) (i:=i) (by omega) (by simpa using hx)]
    omega
theorem sdue_app {now:Int} {late:List Stamp} (h:∀ a ∈ late,now<a.at_):∀ l:List Stamp,sdue (l ++ late) now=sdue l now
 |[]=> by
  cases late with
  |nil=> rfl
  |cons a l=> exact if_pos (h a (List.mem_cons_self ..))
 |a::l=> by
  show sdue (a::(l ++ late)) now=_
  unfold sdue
  rw [sdue_app h l]
theorem Rd.take {α:Type} {sz:Nat} {f:α→Array Value} {W:World} {a:Option Addr} {n c:Nat} {l:List α} (h:Rd sz f W (.slice a n c) l) (k c':Nat) (hk:k≤n) (h1:k≤c') (h2:c'≤9223372036854775807):Rd sz f W (.slice a k c') (l.take k):=by
 obtain ⟨a0,c0,he,_,_,h⟩:=h
 injection he with ha0 hn hc
 subst ha0 hn hc
 refine ⟨_,_,by rw [List.length_take,Nat.min_eq_left hk],by rw [List.length_take];omega,h2,?_⟩
 rcases h with rfl|⟨b,off,rfl,hb,hcell⟩
 · exact .inl (by simp)
 · refine .inr ⟨b,off,rfl,hb,fun i x hx j u hj=> ?_⟩
   rw [List.getElem?_take] at hx
   split at hx
   · exact hcell _ x hx j u hj
   · cases hx
theorem Rd.drop {α:Type} {sz:Nat} {f:α→Array Value} {W:World} {a a':Option Addr} {n c:Nat} {l:List α} (h:Rd sz f W (.slice a n c) l) (k:Nat) (hk:k≤n) (ha:∀ b off,a=some ⟨b,off,none⟩→a'=(if c=k then some ⟨b,off,none⟩ else some ⟨b,off + k * sz,none⟩)):Rd sz f W (.slice a' (n - k) (c - k)) (l.drop k):=by
 obtain ⟨a0,c0,he,h1,h2,h⟩:=h
 injection he with ha0 hn hc
 subst ha0 hn hc
 refine ⟨_,_,by rw [List.length_drop],by rw [List.length_drop];omega,by omega,?_⟩
 by_cases hkn:k=l.length
 · exact .inl (by rw [hkn,List.drop_length])
 · rcases h with rfl|⟨b,off,rfl,hb,hcell⟩
   · exact .inl (by simp)
   · refine .inr ⟨b,off + k * sz,by rw [ha b off rfl,if_neg (by omega)],hb,fun i x hx j u hj=> ?_⟩
     rw [List.getElem?_drop] at hx
     have:=hcell _ x hx j u hj
     rw [Nat.add_mul] at this
     rwa [Nat.add_assoc off]
theorem Rd.empty {α:Type} {sz:Nat} {f:α→Array Value} {W:World} {a:Option Addr} {c:Nat} (h:c≤9223372036854775807):Rd sz f W (.slice a 0 c) []:=⟨a,c,rfl,Nat.zero_le _,h,.inl rfl⟩
def DueR (l:List Stamp) (now:Int) (w:World) (iv:Value) (W:World):Prop:=∃ k:Nat,k≤sdue l now∧iv=.int .i64 k∧W=w
theorem SDue (v:Value) (l:List Stamp) (now:Int) (w:World) (h:Rd 3 Stamp.cells w v l):
 Calls Tryz.prog 63 #[v,.int .u64 now] w (fun e w'=> ∃ v1 v2,e=.returned (.tuple #[v1,v2])∧(∀ W,Rd 3 Stamp.cells W v l→Rd 3 Stamp.cells W v1 (l.take (sdue l now))∧Rd 3 Stamp.cells W v2 (l.drop (sdue l now)))∧Below w.heap.size w w'):=by
 have HSL:=hU h
 obtain ⟨a,c,rfl,hlc,hcm⟩:=h.shape
 have HEL:=hU h.elem.2.2.2
 clear h
 go_enter Tryz.func63,Tryz.ntmps63
 repeat' (first|go_values|go_skip|go_guarded|(with_reducible refine wg ?_)|go_step|go_upon)
 repeat' (first|go_step3|go_values|go_skip|go_guarded|(with_reducible refine wg ?_)|go_step|go_upon)
 go_loopw [6] (fun iv wr=> DueR l now w iv wr) (fun iv _=> sdue l now - (intOf iv).toNat)
 case atStart=> exact ⟨0,Nat.zero_le _,rfl,rfl⟩
 case round=>
  obtain ⟨k,hk,rfl,rfl⟩:=hrel
  have hd:=sdue_le l now
  have HK:=hU hk
  have HD:=hU hd
  by_cases hlt:k<l.length
  · obtain ⟨x,hx⟩:∃ x,l[k]? =some x:=⟨_,List.getElem?_eq_getElem hlt⟩
    obtain ⟨b,off,rfl,hbl,hcell⟩:=HEL.out k x hx
    have hat:=sdue_at hk hx
    have c0:wr.cell? ⟨b,off + k * 3,none⟩=some (.int .u64 x.at_):=hcell wr (Below.refl _ _) 0 _ rfl
    have hj1:(k:Int)<(l.length:Int):=by omega
    have hj0:(0:Int)≤(k:Int):=by omega
    have hge:decide ((l.length:Int)≤(k:Int))=false:=by simp;omega
    by_cases hle:now<x.at_
    · have hgt:decide (now<x.at_)=true:=by simp [hle]
      have HE:=hU (hat.1 hle)
      have hkc:k≤c:=by omega
      have hkl:k≤l.length:=by omega
      clear hcell hx hat hle hk hd
      repeat' (first|go_step3|go_values|go_skip|go_guarded|(with_reducible refine wg ?_)|go_step|go_upon)
      refine wp_region_noPanic ?_
      refine go0 (S:=fun _=> True) [] trivial fun hS=> ?_
      refine tp 0 ?_;try simp only [acts]
      refine tp 1 ?_;try simp only [acts]
      refine tp 2 ?_;try simp only [acts]
      refine tp 3 ?_;try simp only [acts]
      refine tp 4 ?_;try simp only [acts]
      refine tp 5 ?_;try simp only [acts]
      refine tp 6 ?_;try simp only [acts]
      refine tp 7 ?_;try simp only [acts]
      refine tp 8 ?_;try simp only [acts]
      refine doneL (by kernel_rfl) (NoPanic.normal ?_) _
      clear hS
      repeat' (first|go_values|go_skip|go_guarded|(with_reducible refine wg ?_)|go_step|go_upon)
      rw [Exit.noGoto_ret]
      go_ret2
      rw [← HE.out]
      exact ⟨_,_,rfl,fun W h=> ⟨Rd.take h k k hkl (Nat.le_refl _) (by omega),Rd.drop h k hkl (fun b' off' hb=> by injection hb with hb;injection hb with hb1 hb2 _;subst hb1 hb2;rfl)⟩,(Below.refl _ _).drew⟩
    · have hgt:decide (now<x.at_)=false:=by simp;omega
      have hne:k ≠ sdue l now:=fun e=> hle (hat.2 e)
      have HNE:=hU hne
      clear hcell hx hat hle hk hd hne
      repeat' (first|go_step3|go_values|go_skip|go_guarded|(with_reducible refine wg ?_)|go_step|go_upon)
      have:=HK.out
      have:=HNE.out
      exact ⟨⟨k + 1,by omega,by go_num,rfl⟩,by simp [intOf];omega⟩
  · obtain rfl:k=l.length:=by omega
    have HE:Hid (l.length=sdue l now):=hU (by omega)
    have hge:decide ((l.length:Int)≤(l.length:Int))=true:=by simp
    clear hk hd
    repeat' (first|go_step3|go_values|go_skip|go_guarded|(with_reducible refine wg ?_)|go_step|go_upon)
    refine wp_region_noPanic ?_
    refine go0 (S:=fun _=> True) [] trivial fun hS=> ?_
    refine tp 0 ?_;try simp only [acts]
    refine tp 1 ?_;try simp only [acts]
    refine tp 2 ?_;try simp only [acts]
    refine tp 3 ?_;try simp only [acts]
    refine tp 4 ?_;try simp only [acts]
    refine tp 5 ?_;try simp only [acts]
    refine tp 6 ?_;try simp only [acts]
    refine tp 7 ?_;try simp only [acts]
    refine tp 8 ?_;try simp only [acts]
    refine doneL (by kernel_rfl) (NoPanic.normal ?_) _
    clear hS
    repeat' (first|go_values|go_skip|go_guarded|(with_reducible refine wg ?_)|go_step|go_upon)
    rw [Exit.noGoto_ret]
    go_ret2
    rw [← HE.out]
    refine ⟨_,_,rfl,fun W h=> ⟨Rd.take h l.length l.length (Nat.le_refl _) (Nat.le_refl _) (by omega),?_⟩,(Below.refl _ _).drew⟩
    rw [List.drop_length]
    exact Rd.empty (by omega)
end Kn
end Go.Proofs.YtkepkcjjenidgaaGreatDoor
namespace Go.Proofs.YtkepkcjjenidgaaGreatDoor
namespace Kn
def darr (s:Seat) (l:List Stamp):Seat:=l.foldl (fun s a=> sarrive s a.port a.body) s
structure Run where
 s:Seat
 l:List Stamp
def darrive (q:Run):Run:=⟨darr q.s (q.l.take (sdue q.l q.s.k.now)),q.l.drop (sdue q.l q.s.k.now)⟩
def dcycle (x:Part) (q:Run):Run:=⟨scycle x (swindow (darrive q).s),(darrive q).l⟩
def dgo (x:Part):Nat→Run→Run
 |0,q=> q
 |n + 1,q=> dgo x n (dcycle x q)
theorem dgo_add (x:Part) (a:Nat):∀ (b:Nat) (q:Run),dgo x (a + b) q=dgo x b (dgo x a q):=by
 induction a with
 |zero=> intro b q;rw [Nat.zero_add];rfl
 |succ a ih=> intro b q;rw [Nat.add_right_comm];exact ih b (dcycle x q)
theorem dgo_succ (x:Part) (n:Nat) (q:Run):dgo x (n + 1) q=dcycle x (dgo x n q):=dgo_add x n 1 q
def dbegin (g:SGuest) (l:List Stamp):Run:=⟨sbegin g.x g.images g.outs g.ins_,l⟩
def drun (g:SGuest) (l:List Stamp) (n:Nat):Seat:=(darrive (dgo g.x n (dbegin g l))).s
def SmallStamps (l:List Stamp):Prop:=∀ a ∈ l,a.body.size≤140737488355328
theorem darr_good {n:Nat} {s:Seat} (h:SGood n s):∀ {l:List Stamp},SmallStamps l→SGood (n + l.length) (darr s l):=by
 intro l
 induction l generalizing n s with
 |nil=> intro _;exact h
 |cons a l ih=>
  intro hl
  have:=ih (h.arrive a.port a.body (hl a (List.mem_cons_self ..))) (fun b hb=> hl b (List.mem_cons_of_mem _ hb))
  rw [List.length_cons,Nat.add_comm l.length,← Nat.add_assoc]
  exact this
theorem darr_now (s:Seat):∀ l:List Stamp,(darr s l).k.now=s.k.now:=by
 intro l
 induction l generalizing s with
 |nil=> rfl
 |cons a l ih=> exact (ih (sarrive s a.port a.body)).trans (arrive_now _ _ _ _)
structure RGood (N m:Nat) (q:Run):Prop where
 s:SGood (N + m - q.l.length) q.s
 l:SmallStamps q.l
 n:q.l.length≤N
 nw:q.s.k.now≤m
theorem RGood.arrive {N m:Nat} {q:Run} (h:RGood N m q):RGood N m (darrive q):=by
 have hd:=sdue_le q.l q.s.k.now
 have hn:=h.n
 refine ⟨?_,fun a ha=> h.l a (List.mem_of_mem_drop ha),by show (q.l.drop _).length≤_;rw [List.length_drop];omega,by show (darr _ _).k.now≤_;rw [darr_now];exact h.nw⟩
 have:=darr_good h.s (l:=q.l.take (sdue q.l q.s.k.now)) (fun a ha=> h.l a (List.mem_of_mem_take ha))
 refine this.mono ?_
 show _≤N + m - (q.l.drop _).length
 rw [List.length_take,List.length_drop]
 omega
theorem swindow_now (s:Seat):(swindow s).k.now=s.k.now:=by
 unfold swindow
 split <;> rfl
theorem scycle_now_le {n:Nat} {x:Part} {s:Seat} (h:SGood n s) (hb:n≤1000000):(scycle x s).k.now≤s.k.now + 1:=by
 by_cases h1:s.st=1
 · rw [scycle_now h hb h1]
   exact Int.le_refl _
 · rw [scycle_stays h1]
   omega
theorem RGood.cycle {N m:Nat} {x:Part} {q:Run} (h:RGood N m q) (hx:PartOk x) (hb:N + m≤100000):RGood N (m + 1) (dcycle x q):=by
 have ha:=h.arrive
 have hn:=ha.n
 have hw:=ha.s.window
 refine ⟨(hw.cycle hx (by omega)).mono (by show _≤N + (m + 1) - (darrive q).l.length;omega),ha.l,ha.n,?_⟩
 have h1:=scycle_now_le (x:=x) hw (by omega)
 have h2:=ha.nw
 rw [swindow_now] at h1
 show (scycle x (swindow (darrive q).s)).k.now≤_
 omega
theorem RGood.go {N m:Nat} {x:Part} {q:Run} (h:RGood N m q) (hx:PartOk x):∀ k:Nat,N + m + k≤100000→RGood N (m + k) (dgo x k q)
 |0,_=> h
 |k + 1,hk=> by
  rw [dgo_succ]
  exact (RGood.go h hx k (by omega)).cycle hx (by omega)
theorem dbegin_good {g:SGuest} (hg:SGuestOk g) {l:List Stamp} (hl:SmallStamps l):RGood l.length 0 (dbegin g l):=by
 have hs:=sbegin_good hg
 exact ⟨hs.mono (Nat.zero_le _),hl,Nat.le_refl _,hs.nw⟩
theorem dgo_good {g:SGuest} (hg:SGuestOk g) {l:List Stamp} (hl:SmallStamps l) (k:Nat) (hk:l.length + k≤100000):RGood l.length k (dgo g.x k (dbegin g l)):=by
 have:=(dbegin_good hg hl).go hg.x k (by omega)
 rwa [Nat.zero_add] at this
theorem darrive_late {q:Run} {late:List Stamp} (h:∀ a ∈ late,q.s.k.now<a.at_):darrive ⟨q.s,q.l ++ late⟩=⟨(darrive q).s,(darrive q).l ++ late⟩:=by
 have hd:=sdue_le q.l q.s.k.now
 unfold darrive
 dsimp only
 rw [sdue_app h,List.take_append_of_le_length hd,List.drop_append_of_le_length hd]
theorem dgo_late {g:SGuest} (hg:SGuestOk g) {l late:List Stamp} (hl:SmallStamps l) {n:Nat} (h:∀ a ∈ late,(n:Int)<a.at_):∀ k:Nat,k≤n→l.length + k≤100000→dgo g.x k (dbegin g (l ++ late))=⟨(dgo g.x k (dbegin g l)).s,(dgo g.x k (dbegin g l)).l ++ late⟩
 |0,_,_=> rfl
 |k + 1,hk,hb=> by
  have hq:=dgo_good hg hl k (by omega)
  rw [dgo_succ,dgo_succ,dgo_late hg hl h k (by omega) (by omega)]
  unfold dcycle
  rw [darrive_late (fun a ha=> by have:=h a ha;have:=hq.nw;omega)]
theorem drun_late {g:SGuest} (hg:SGuestOk g) {l late:List Stamp} (hl:SmallStamps l) {n:Nat} (h:∀ a ∈ late,(n:Int)<a.at_) (hb:l.length + n≤100000):drun g (l ++ late) n=drun g l n:=by
 have hq:=dgo_good hg hl n hb
 unfold drun
 rw [dgo_late hg hl h n (Nat.le_refl _) hb,darrive_late (fun a ha=> by have:=h a ha;have:=hq.nw;omega)]
end Kn
end Go.Proofs.YtkepkcjjenidgaaGreatDoor
namespace Go.Proofs.YtkepkcjjenidgaaGreatDoor
open Go.RowKit KR RegT3
namespace Kn
structure Kept2 (p q:Nat) (w W:World):Prop where
 os:W.os=w.os
 tape:W.tape=w.tape
 output:W.output=w.output
 size:w.heap.size≤W.heap.size
 block:∀ k,k<w.heap.size→k ≠ p→k ≠ q→W.heap[k]? =w.heap[k]?
theorem Kept2.refl (p q:Nat) (w:World):Kept2 p q w w:=⟨rfl,rfl,rfl,Nat.le_refl _,fun _ _ _ _=> rfl⟩
theorem Kept2.trans {p q:Nat} {w W W':World} (h:Kept2 p q w W) (g:Kept2 p q W W'):Kept2 p q w W':=
 ⟨g.os.trans h.os,g.tape.trans h.tape,g.output.trans h.output,Nat.le_trans h.size g.size,fun k h1 h2 h3=> (g.block k (Nat.lt_of_lt_of_le h1 h.size) h2 h3).trans (h.block k h1 h2 h3)⟩
theorem n2 {p q:Nat} {w W W':World} (hb:Below W.heap.size W W') (h:Hid (Kept2 p q w W)):Hid (Kept2 p q w W'):=
 hU (h.out.trans ⟨hb.os,hb.tape,hb.output,hb.size,fun k h1 _ _=> hb.block k h1⟩)
theorem p2 {p q:Nat} {w W W':World} {g:Nat} {cs:Array Value} {T:TypeId} (hp:Put g cs T W W') (h:Hid (Kept2 p q w W)) (hg:g=p∨g=q∨w.heap.size≤g):Hid (Kept2 p q w W'):=
 hU ⟨hp.os.trans h.out.os,hp.tape.trans h.out.tape,hp.output.trans h.out.output,Nat.le_trans h.out.size (Nat.le_of_eq hp.size.symm),fun k h1 h2 h3=> (hp.oth k (by omega)).trans (h.out.block k h1 h2 h3)⟩
theorem Kept2.low {p q B:Nat} {w W:World} (h:Kept2 p q w W) (h1:B≤p) (h2:B≤q) (h3:B≤w.heap.size):Below B w W:=⟨h.os,h.tape,h.output,h.size,fun k hk=> h.block k (by omega) (by omega) (by omega)⟩
theorem nbz2 {p q:Nat} {w W:World} (h:Hid (Kept2 p q w W)):∃ m,W.heap.size=m∧w.heap.size≤m:=⟨_,rfl,h.out.size⟩
theorem k2 {p q g:Nat} {w W:World} {c:Array Value} {T:TypeId} (hk:Kept2 p q w W) (h:Hid (w.heap[g]? =some (.cells c T (0,0)))) (h1:g ≠ p) (h2:g ≠ q):Hid (W.heap[g]? =some (.cells c T (0,0))):=hU ((hk.block g (hlt h.out) h1 h2).trans h.out)
theorem oneSStamp:One Tryz.prog 60:=one_of Tryz.underlying60 rfl (by kernel_rfl)
theorem noStamp:noRow 93:=by decide
theorem noStamps:noRow 60:=by decide
theorem aggStamp:Agg Tryz.prog 93 3:=agg_of Tryz.underlying93 rfl (by kernel_rfl)
theorem onesStamp (a:Stamp):∀ u ∈ (Value.agg (Stamp.cells a)).cells.toList,u.oneCell'=true:=by
 intro u hu
 simp only [Value.cells,Stamp.cells,List.mem_cons,List.not_mem_nil,or_false] at hu
 rcases hu with rfl|rfl|rfl <;> rfl
def GivesD (B p q:Nat) (w0:World) (r:Run) (w:World) (e:Ending) (w':World):Prop:=(∃ v,e=.returned v)∧(∃ y bs lv,w'.heap[q]? =some (.cells (scells y r.s) 58 (0,0))∧LayAt w' y bs r.s.k∧w'.heap[p]? =some (.cells #[lv] 60 (0,0))∧∀ W,Below B w0 W→Rd 3 Stamp.cells W lv r.l)∧Kept2 p q w w'
def ArrR (w:World) (p q:Nat) (s:Seat) (ds:List Stamp) (rv:Value) (iv:Value) (W:World):Prop:=∃ (i:Nat) (y:Lay) (bs:List BoxV),i≤ds.length∧iv=.int .i64 i∧Hid (W.heap[q]? =some (.cells (scells y (darr s (ds.take i))) 58 (0,0)))∧Hid (LayAt W y bs (darr s (ds.take i)).k)∧Hid (W.heap[p]? =some (.cells #[rv] 60 (0,0)))∧Hid (Kept2 p q w W)
theorem darr_take {s:Seat} {ds:List Stamp} {i:Nat} {a:Stamp} (h:ds[i]? =some a):darr s (ds.take (i + 1))=sarrive (darr s (ds.take i)) a.port a.body:=by
 unfold darr
 rw [List.take_add_one,h,Option.toList_some,List.foldl_append]
 rfl
theorem SArr17 (B p q:Nat) (y:Lay) (bs:List BoxV) (s:Seat) (lv:Value) (l:List Stamp) (n:Nat) (w0 w:World) (hw0:Below B w0 w) (hq:w.heap[q]? =some (.cells (scells y s) 58 (0,0))) (hl:LayAt w y bs s.k) (hp:w.heap[p]? =some (.cells #[lv] 60 (0,0))) (hd:∀ W,Below B w0 W→Rd 3 Stamp.cells W lv l)
 (hg:SGood n s) (hs:SmallStamps l) (hn:n + l.length≤50000) (b1:B≤p) (b2:B≤q):Calls Tryz.prog 62 #[.pointer (some ⟨p,0,none⟩),.pointer (some ⟨q,0,none⟩)] w (GivesD B p q w0 (darrive ⟨s,l⟩) w):=by
 have HD:=hU hd
 have HG:=hU hg
 have HS:=hU hs
 have HL:=hU hl
 have HQ:=hU hq
 have HP:=hU hp
 have HB:=hU (Kept2.refl p q w)
 have hqz:=hlt hq
 have hpz:=hlt hp
 have f0:w.cell? ⟨p,0,none⟩=some lv:=hcell hp 0
 have f7:w.cell? ⟨q,7,none⟩=some (.int .u64 s.k.now):=hcell hq 7
 have e4:=SDue lv l s.k.now w (hd w hw0)
 have HST:=hU e4
 clear hd hg hs hl hq hp e4
 go_enter Tryz.func62,Tryz.ntmps62
 repeat' (first|go_values|go_skip|go_guarded|(with_reducible refine wg ?_)|go_step|go_upon)
 refine (HST.out).mono ?_
 rintro er Wn ⟨v1,v2,rfl,hv,hb⟩
 replace HQ:=nB hb HQ
 replace HP:=nB hb HP
 replace HL:=nL hb HL
 replace HB:=n2 hb HB
 clear hb
 have HV:=hU hv
 clear hv f0 f7 HST
 dsimp only
 obtain ⟨d,hd⟩:∃ d,sdue l s.k.now=d:=⟨_,rfl⟩
 have hdl:d≤l.length:=by rw [← hd];exact sdue_le _ _
 have HDA:Hid (darrive ⟨s,l⟩=⟨darr s (l.take d),l.drop d⟩):=hU (by rw [← hd];rfl)
 rw [hd] at HV
 clear hd
 have HR:=hU (fun W (h:Below B w0 W)=> HV.out W (HD.out W h))
 have hlow:Below B w0 Wn:=hw0.trans (HB.out.low b1 b2 (by omega))
 obtain ⟨a2,c2,hv2,_,_⟩:=(HR.out Wn hlow).2.shape
 obtain ⟨a1,c1,hv1,_,hc1⟩:=(HR.out Wn hlow).1.shape
 have hlt1:(l.take d).length=d:=by rw [List.length_take,Nat.min_eq_left hdl]
 have hlt2:(l.drop d).length=l.length - d:=List.length_drop ..
 rw [hlt1] at hv1
 rw [hlt2] at hv2
 rw [hv1,hv2] at HR
 subst hv1 hv2
 clear HV HD hlow
 repeat' (first
  |(refine wpList_store1 (t:=60) (v:=.slice a2 (l.length - d) c2) (off:=0) (new:=#[.slice a2 (l.length - d) c2]) rfl rfl rfl rfl oneSStamp HP.out rfl rfl (show 0 + 1≤1 by decide) rfl ?_;intro Wn hp
    replace HB:=p2 hp HB (by omega)
    replace HQ:=pT hp HP HQ
    replace HL:=pL hp HP HL
    replace HP:=pA hp
    clear hp)
  |go_values|go_skip|go_guarded|(with_reducible refine wg ?_)|go_step|go_upon)
 obtain ⟨ds,hds⟩:∃ ds,l.take d=ds:=⟨_,rfl⟩
 have hdn:ds.length=d:=by rw [← hds];exact hlt1
 rw [hds] at HDA HR
 have HSD:Hid (SmallStamps ds):=hU (by rw [← hds];exact fun a ha=> HS.out a (List.mem_of_mem_take ha))
 clear hlt1 hlt2 hds HS
 have HRT:=hU (fun W h=> (HR.out W h).1)
 have HRD:=hU (fun W h=> (HR.out W h).2)
 clear HR
 have HW:=HB
 have HRB:Hid (Below B w0 Wn):=hU (hw0.trans (HB.out.low b1 b2 (by omega)))
 have hBz:B≤Wn.heap.size:=by have:=HB.out.size;omega
 obtain ⟨Wm,rfl⟩:∃ Wm,Wm=Wn:=⟨_,rfl⟩
 go_loopw [17] (fun iv wr=> ArrR Wm p q s ds (.slice a2 (l.length - d) c2) iv wr) (fun iv _=> d - (intOf iv).toNat)
 case atStart=> exact ⟨0,y,bs,Nat.zero_le _,rfl,HQ,HL,HP,hU (Kept2.refl p q _)⟩
 case round=>
  clear HQ HL HP HB
  obtain ⟨i,yi,bi,hi,rfl,HQ,HL,HP,HB⟩:=hrel
  obtain ⟨Wn,rfl⟩:∃ Wn,Wn=wr:=⟨_,rfl⟩
  obtain ⟨si,hsi⟩:∃ si,darr s (ds.take i)=si:=⟨_,rfl⟩
  have HGD:Hid (SGood (n + i) si):=hU (by
   have:=darr_good HG.out (l:=ds.take i) (fun a ha=> HSD.out a (List.mem_of_mem_take ha))
   rw [hsi,List.length_take] at this
   exact this.mono (by omega))
  rw [hsi] at HQ HL
  have HSI:=hU hsi
  clear hsi
  have hqz:=hlt HQ.out
  have hpz:=hlt HP.out
  by_cases hil:i<d
  · have hj1:decide ((i:Int)<(d:Int))=true:=by simp [hil]
    have hj2:(i:Int)<(d:Int):=by omega
    have hj0:(0:Int)≤(i:Int):=by omega
    obtain ⟨a,hx⟩:∃ a,ds[i]? =some a:=⟨_,List.getElem?_eq_getElem (by omega)⟩
    have hlow:Below B w0 Wn:=HRB.out.trans (HB.out.low b1 b2 hBz)
    obtain ⟨gb,off,rfl,hgb,hcell0⟩:=(HRT.out Wn hlow).elem.2.2.2 i a hx
    have HCE:=hU (hcell0 Wn (Below.refl _ _))
    have hsm:=HSD.out a (List.mem_of_getElem? hx)
    have htk:=darr_take (s:=s) hx
    rw [HSI.out] at htk
    have HTK:=hU htk
    clear hcell0 hx htk hlow
    obtain ⟨bHT,hab,habHT⟩:=nbz2 HB
    have hxHQHT:=nlt HQ hab
    have hxHPHT:=nlt HP hab
    obtain ⟨Wn,hWn,hba,HT⟩:=nb1 (W:=Wn) (.cells #[.int .u64 0,.int .i64 0,.string ⟨#[]⟩] 93) hab
    replace HQ:=nB hba HQ
    replace HP:=nB hba HP
    replace HL:=nL hba HL
    replace HB:=n2 hba HB
    clear hba
    repeat' (first
     |(rw [hWn,hab];clear hWn hab)
     |(refine wpList_load (t:=93) (v:=.agg (Stamp.cells a)) rfl rfl rfl (run_load_arr aggStamp rfl HCE.out) ?_;clear HCE)
     |(refine wpList_store (t:=93) (v:=.agg (Stamp.cells a)) (off:=0) (new:=Stamp.cells a) rfl rfl rfl rfl aggStamp.size HT.out rfl (show 0 + 3≤3 by decide) (onesStamp a) rfl ?_;intro Wn hp
       replace HB:=p2 hp HB (by omega)
       replace HQ:=pT hp HT HQ
       replace HP:=pT hp HT HP
       replace HL:=pL hp HT HL
       replace HT:=pA hp
       clear hp
       have f1:Wn.cell? ⟨bHT,1,none⟩=some (.int .i64 a.port):=hcell HT.out 1
       have f2:Wn.cell? ⟨bHT,2,none⟩=some (.string a.body):=hcell HT.out 2)
     |(refine wpList_load (t:=58) (v:=.agg (scells yi si)) rfl rfl rfl (run_load_whole aggSeat HQ.out rfl) ?_)
     |go_values|go_skip|go_guarded|(with_reducible refine wg ?_)|go_step|go_upon)
    refine (SArrives (.agg (scells yi si)) si a.port a.body _ ⟨yi,bi,rfl,HL.out⟩ (by have:=HGD.out.k.bl;omega) (by have:=HGD.out.k.il;omega) (fun q hq=> by have:=HGD.out.k.bn q hq;omega)).mono ?_
    rintro er Wn ⟨vA,rfl,⟨yA,bsA,rfl,hl⟩,hb⟩
    replace HQ:=nB hb HQ
    replace HP:=nB hb HP
    replace HT:=nB hb HT
    replace HL:=nL hb HL
    replace HB:=n2 hb HB
    clear hb
    have HLA:=hU hl
    clear hl
    dsimp only
    clear f1 f2 HL
    have HO:=hU (onesS HLA.out)
    repeat' (first
     |(refine wpList_store (t:=58) (v:=.agg (scells yA (sarrive si a.port a.body))) (off:=0) (new:=scells yA (sarrive si a.port a.body)) rfl rfl rfl rfl aggSeat.size HQ.out rfl (show 0 + 19≤19 by decide) HO.out rfl ?_;intro Wn hp
       replace HB:=p2 hp HB (by omega)
       replace HP:=pT hp HQ HP
       replace HT:=pT hp HQ HT
       replace HLA:=pL hp HQ HLA noSeat
       replace HQ:=pA hp
       clear hp)
     |go_values|go_skip|go_guarded|(with_reducible refine wg ?_)|go_step|go_upon)
    exact ⟨⟨i + 1,yA,bsA,by omega,by go_num,by rw [HTK.out];exact HQ,by rw [HTK.out];exact HLA,HP,HB⟩,by simp [intOf];omega⟩
  · have hj1:decide ((i:Int)<(d:Int))=false:=by simp;omega
    repeat' (first|go_values|go_skip|go_guarded|(with_reducible refine wg ?_)|go_step|go_upon)
    go_end0
    have hid:i=d:=by omega
    have hsd:si=darr s ds:=by rw [← HSI.out,hid,← hdn,List.take_length]
    rw [HDA.out]
    refine ⟨⟨_,rfl⟩,⟨yi,bi,_,by rw [← hsd];exact HQ.out,by rw [← hsd];exact HL.out,HP.out,HRD.out⟩,HW.out.trans HB.out⟩
def RunR (w:World) (b:Nat) (x:Part) (q0:Run) (m:Nat) (iv:Value) (W:World):Prop:=∃ (i:Nat) (y:Lay) (bs:List BoxV) (lv:Value),i≤m∧iv=.int .i64 i∧Hid (W.heap[b]? =some (.cells (scells y (dgo x i q0).s) 58 (0,0)))∧Hid (LayAt W y bs (dgo x i q0).s.k)∧Hid (W.heap[w.heap.size + 1]? =some (.cells #[lv] 60 (0,0)))∧
 Hid (W.heap[w.heap.size]? =some (.cells x.cells 64 (0,0)))∧Hid (W.heap[w.heap.size + 1 + 1]? =some (.cells #[.slice none 0 0,.slice none 0 0,.int .i64 0,.slice none 0 0,.slice none 0 0,.int .i64 0,.slice none 0 0,.int .u64 0,.slice none 0 0,.slice none 0 0,.slice none 0 0,.slice none 0 0,.string ⟨#[]⟩,.slice none 0 0,.slice none 0 0,.int .i64 0,.int .i64 0,.int .i64 0,.int .i64 0] 58 (0,0)))∧Hid (∀ W',Below w.heap.size w W'→Rd 3 Stamp.cells W' lv (dgo x i q0).l)∧Hid (Below w.heap.size w W)
theorem SRun17 (g:SGuest) (iv ov nv lv:Value) (l:List Stamp) (n:Int) (w:World) (hi:Rd 1 strCells w iv g.images) (ho:Rd 5 Chan.cells w ov g.outs) (hn:Rd 5 Chan.cells w nv g.ins_) (hl:Rd 3 Stamp.cells w lv l) (hg:SGuestOk g) (hs:SmallStamps l) (hb:l.length + n.toNat≤50000) (hT:Tab w):
 Calls Tryz.prog 33 #[.agg g.x.cells,iv,ov,nv,lv,.int .i64 n] w (GivesS (drun g l n.toNat) w):=by
 obtain ⟨la,lc,rfl,_,_⟩:=hl.shape
 obtain ⟨m,hm⟩:∃ m,n.toNat=m:=⟨_,rfl⟩
 rw [hm] at hb ⊢
 have hmm:(max n 0:Int)=(m:Int):=by omega
 clear hm
 obtain ⟨q0,q1,q2⟩:=three_new w w.heap.size (.cells g.x.cells 64) (.cells #[(.slice la l.length lc)] 60) (.cells #[.slice none 0 0,.slice none 0 0,.int .i64 0,.slice none 0 0,.slice none 0 0,.int .i64 0,.slice none 0 0,.int .u64 0,.slice none 0 0,.slice none 0 0,.slice none 0 0,.slice none 0 0,.string ⟨#[]⟩,.slice none 0 0,.slice none 0 0,.int .i64 0,.int .i64 0,.int .i64 0,.int .i64 0] 58) rfl
 have hb0:Below w.heap.size w (((w.alloc (.cells g.x.cells 64)).alloc (.cells #[(.slice la l.length lc)] 60)).alloc (.cells #[.slice none 0 0,.slice none 0 0,.int .i64 0,.slice none 0 0,.slice none 0 0,.int .i64 0,.slice none 0 0,.int .u64 0,.slice none 0 0,.slice none 0 0,.slice none 0 0,.slice none 0 0,.string ⟨#[]⟩,.slice none 0 0,.slice none 0 0,.int .i64 0,.int .i64 0,.int .i64 0,.int .i64 0] 58)):=bel
 obtain ⟨Wn,hW0⟩:=exW (((w.alloc (.cells g.x.cells 64)).alloc (.cells #[(.slice la l.length lc)] 60)).alloc (.cells #[.slice none 0 0,.slice none 0 0,.int .i64 0,.slice none 0 0,.slice none 0 0,.int .i64 0,.slice none 0 0,.int .u64 0,.slice none 0 0,.slice none 0 0,.slice none 0 0,.slice none 0 0,.string ⟨#[]⟩,.slice none 0 0,.slice none 0 0,.int .i64 0,.int .i64 0,.int .i64 0,.int .i64 0] 58))
 rw [hW0] at q0 q1 q2 hb0
 have HX:=hU q0
 have HP:=hU q1
 have HR:=hU q2
 have HB:=hU hb0
 have e4:=SBegin g.x iv ov nv g.images g.outs g.ins_ Wn (hi.below hb0) (ho.below hb0) (hn.below hb0) (by have:=hg.im;omega) (by have:=hg.ou;omega) (by have:=hg.ins_;omega) hg.x.m0 hg.x.m1
 have HBT:=hU e4
 have HG:=hU hg
 have HT:=hU (fun W (h:Below w.heap.size w W)=> hT.below h)
 have HD:Hid (∀ W',Below w.heap.size w W'→Rd 3 Stamp.cells W' (.slice la l.length lc) l):=hU (fun W h=> hl.below h)
 have hR0:=fun k (hk:k≤m)=> dgo_good (g:=g) hg hs k (by omega)
 have HRG:=hU hR0
 clear q0 q1 q2 hb0 hi ho hn hl hg hs hT e4 hR0
 go_enter Tryz.func33,Tryz.ntmps33
 repeat' (first|(rw [hW0];clear hW0)|(refine wpList_load (t:=64) (v:=.agg g.x.cells) rfl rfl rfl (run_load_whole aggPart HX.out rfl) ?_)|go_values|go_skip|go_guarded|(with_reducible refine wg ?_)|go_step|go_upon)
 refine (HBT.out).mono ?_
 rintro er Wn ⟨vS,rfl,⟨yS,bsS,rfl,hl⟩,hb⟩
 replace HX:=nB hb HX
 replace HP:=nB hb HP
 replace HR:=nB hb HR
 replace HB:=nW hb HB
 clear hb
 have HLS:=hU hl
 clear hl
 dsimp only
 clear HBT
 have hq0:dgo g.x 0 (dbegin g l)=dbegin g l:=rfl
 obtain ⟨s,hss⟩:∃ s,sbegin g.x g.images g.outs g.ins_=s:=⟨_,rfl⟩
 rw [hss] at HLS ⊢
 have HSS:=hU hss
 clear hss hq0
 obtain ⟨bHQ,hab,habHQ⟩:=nbz HB
 have hxHXHQ:=nlt HX hab
 have hxHPHQ:=nlt HP hab
 have hxHRHQ:=nlt HR hab
 obtain ⟨Wn,hWn,hba,HQ⟩:=nb1 (W:=Wn) (.cells #[.slice none 0 0,.slice none 0 0,.int .i64 0,.slice none 0 0,.slice none 0 0,.int .i64 0,.slice none 0 0,.int .u64 0,.slice none 0 0,.slice none 0 0,.slice none 0 0,.slice none 0 0,.string ⟨#[]⟩,.slice none 0 0,.slice none 0 0,.int .i64 0,.int .i64 0,.int .i64 0,.int .i64 0] 58) hab
 replace HX:=nB hba HX
 replace HP:=nB hba HP
 replace HR:=nB hba HR
 replace HLS:=nL hba HLS
 replace HB:=nW hba HB
 clear hba
 have HO:=hU (onesS HLS.out)
 repeat' (first
  |(rw [hWn,hab];clear hWn hab)
  |(refine wpList_store (t:=58) (v:=.agg (scells yS s)) (off:=0) (new:=scells yS s) rfl rfl rfl rfl aggSeat.size HQ.out rfl (show 0 + 19≤19 by decide) HO.out rfl ?_;intro Wn hp
    replace HB:=pW hp HB
    replace HX:=pT hp HQ HX
    replace HP:=pT hp HQ HP
    replace HR:=pO hp HR
    replace HLS:=pL hp HQ HLS noSeat
    replace HQ:=pA hp
    clear hp)
  |go_values|go_skip|go_guarded|(with_reducible refine wg ?_)|go_step|go_upon)
 clear HO
 have hQz:=hlt HQ.out
 clear hmm
 have HB0:=HB
 go_loopw [23] (fun iv2 wr=> RunR w bHQ g.x (dbegin g l) m iv2 wr) (fun iv2 _=> m - (intOf iv2).toNat)
 case atStart=> exact ⟨0,yS,bsS,_,Nat.zero_le _,rfl,by rw [show (dgo g.x 0 (dbegin g l)).s=s from HSS.out];exact HQ,by rw [show (dgo g.x 0 (dbegin g l)).s=s from HSS.out];exact HLS,HP,HX,HR,HD,HB⟩
 case round=>
  clear HQ HLS HP HX HR HD HB
  obtain ⟨i,yi,bi,lv,him,rfl,HQ,HLI,HP,HX,HR,HD,HB⟩:=hrel
  obtain ⟨Wn,rfl⟩:∃ Wn,Wn=wr:=⟨_,rfl⟩
  obtain ⟨q,hq⟩:∃ q,dgo g.x i (dbegin g l)=q:=⟨_,rfl⟩
  have hrg:RGood l.length i q:=by rw [← hq];exact HRG.out i him
  rw [hq] at HQ HLI HD
  have HRQ:=hU hrg
  have HQQ:=hU hq
  have hql:=hrg.n
  clear hq hrg
  have hzw:=HB.out.size
  have hqz:=hlt HQ.out
  have e5:=SArr17 w.heap.size (w.heap.size + 1) bHQ yi bi q.s lv q.l (l.length + i - q.l.length) w Wn HB.out HQ.out HLI.out HP.out HD.out HRQ.out.s HRQ.out.l (by omega) (by omega) (by omega)
  have HAR:=hU e5
  clear e5
  by_cases hil:i<m
  · have hj1:decide ((i:Int)<(m:Int))=true:=by simp [hil]
    repeat' (first|go_values|go_skip|go_guarded|(with_reducible refine wg ?_)|go_step|go_upon)
    refine HAR.out.mono ?_
    rintro er Wa ⟨⟨va,rfl⟩,⟨ya,ba,lva,hqa,hla,hpa,hda⟩,hka⟩
    replace HX:=k2 hka HX (by omega) (by omega)
    replace HR:=k2 hka HR (by omega) (by omega)
    replace HQ:=hU hqa
    replace HP:=hU hpa
    have HLA:=hU hla
    have HDA:=hU hda
    replace HB:Hid (Below w.heap.size w Wa):=hU (HB.out.trans (hka.low (by omega) (by omega) (by omega)))
    obtain ⟨Wn,rfl⟩:∃ Wn,Wn=Wa:=⟨_,rfl⟩
    obtain ⟨qa,hqq⟩:∃ qa,darrive q=qa:=⟨_,rfl⟩
    have HGA:Hid (RGood l.length i qa):=hU (by rw [← hqq];exact HRQ.out.arrive)
    have hqe:darrive ⟨q.s,q.l⟩=qa:=hqq
    rw [hqe] at HQ HLA HDA
    have HQA:=hU hqq
    clear hqa hpa hla hda hka HLI HD HAR hqq hqe
    dsimp only
    repeat' (first|go_values|go_skip|go_guarded|(with_reducible refine wg ?_)|go_step|go_upon)
    refine wp_region_noPanic ?_
    refine go0 (S:=fun W=> W.heap[w.heap.size]? =some (.cells g.x.cells 64 (0,0))∧W.heap[bHQ]? =some (.cells (scells ya qa.s) 58 (0,0))) [4] ⟨HX.out,HQ.out⟩ fun hS=> ?_
    obtain ⟨Wm,hWd⟩:=exW Wn.drew
    replace HX:=dB hWd HX
    replace HR:=dB hWd HR
    replace HQ:=dB hWd HQ
    replace HP:=dB hWd HP
    replace HLA:=dL hWd HLA
    replace HB:=dW hWd HB
    rw [hWd] at hS ⊢
    clear hWd
    obtain ⟨Wn,rfl⟩:∃ Wn,Wn=Wm:=⟨_,rfl⟩
    refine tv 0 (.agg g.x.cells) (fun W hSW=> run_val_load rfl rfl (run_load_whole aggPart hSW.1 rfl)) ?_;(try simp only [acts])
    refine tv 1 (.agg (scells ya qa.s)) (fun W hSW=> run_val_load rfl rfl (run_load_whole aggSeat hSW.2 rfl)) ?_;(try simp only [acts])
    refine ro 2 fun K hK=> ?_
    refine want rfl ?_
    go_simp
    refine (SWindow (.agg (scells ya qa.s)) qa.s _ ⟨ya,ba,rfl,HLA.out⟩).mono ?_
    rintro er Wn ⟨vW,rfl,⟨yW,bsW,rfl,hl⟩,hb⟩
    replace HX:=nB hb HX
    replace HP:=nB hb HP
    replace HR:=nB hb HR
    replace HQ:=nB hb HQ
    replace HLA:=nL hb HLA
    replace HB:=nW hb HB
    clear hb
    have HLW:=hU hl
    clear hl
    dsimp only
    try clear hS
    refine nx hK (⟨HX.out,HQ.out⟩) fun hS=> ?_
    clear hK K
    (try simp only [acts])
    refine ro 3 fun K hK=> ?_
    refine want rfl ?_
    go_simp
    refine (SCycle g.x _ (swindow qa.s) (l.length + i - qa.l.length) _ ⟨yW,bsW,rfl,HLW.out⟩ HGA.out.s.window (by omega) HG.out.x (HT.out _ HB.out)).mono ?_
    rintro er Wn ⟨vC,rfl,⟨yC,bsC,rfl,hl⟩,hb⟩
    replace HX:=nB hb HX
    replace HP:=nB hb HP
    replace HR:=nB hb HR
    replace HQ:=nB hb HQ
    replace HLA:=nL hb HLA
    replace HLW:=nL hb HLW
    replace HB:=nW hb HB
    clear hb
    have HLC:=hU hl
    clear hl
    dsimp only
    try clear hS
    refine nx hK (⟨HX.out,HQ.out⟩) fun hS=> ?_
    clear hK K
    (try simp only [acts])
    clear HLA HLW
    refine ro 4 fun K hK=> ?_
    refine want rfl ?_
    refine wp_store (v:=.agg (scells yC (scycle g.x (swindow qa.s)))) (off:=0) (new:=scells yC (scycle g.x (swindow qa.s))) rfl rfl rfl aggSeat.size HQ.out rfl (show 0 + 19≤19 by decide) (onesS HLC.out) rfl ?_
    intro Wn hp
    replace HB:=pW hp HB
    replace HX:=pT hp HQ HX
    replace HP:=pT hp HQ HP
    replace HR:=pO hp HR
    replace HLC:=pL hp HQ HLC noSeat
    replace HQ:=pA hp
    clear hp
    refine nt hK ?_
    clear hK K
    try clear hS
    (try simp only [acts])
    refine doneL (by kernel_rfl) (NoPanic.normal ?_) _
    try clear hS
    have hdc:dgo g.x (i + 1) (dbegin g l)=⟨scycle g.x (swindow qa.s),qa.l⟩:=by rw [dgo_succ,HQQ.out];unfold dcycle;rw [HQA.out]
    repeat' (first|go_values|go_skip|go_guarded|(with_reducible refine wg ?_)|go_step|go_upon)
    exact ⟨⟨i + 1,yC,bsC,lva,by omega,by go_num,by rw [hdc];exact HQ,by rw [hdc];exact HLC,HP,HX,HR,by rw [hdc];exact HDA,HB⟩,by simp [intOf];omega⟩
  · have hj1:decide ((i:Int)<(m:Int))=false:=by simp;omega
    repeat' (first|go_values|go_skip|go_guarded|(with_reducible refine wg ?_)|go_step|go_upon)
    refine HAR.out.mono ?_
    rintro er Wa ⟨⟨va,rfl⟩,⟨ya,ba,lva,hqa,hla,hpa,hda⟩,hka⟩
    replace HX:=k2 hka HX (by omega) (by omega)
    replace HR:=k2 hka HR (by omega) (by omega)
    replace HQ:=hU hqa
    replace HP:=hU hpa
    have HLA:=hU hla
    have HDA:=hU hda
    replace HB:Hid (Below w.heap.size w Wa):=hU (HB.out.trans (hka.low (by omega) (by omega) (by omega)))
    obtain ⟨Wn,rfl⟩:∃ Wn,Wn=Wa:=⟨_,rfl⟩
    obtain ⟨qa,hqq⟩:∃ qa,darrive q=qa:=⟨_,rfl⟩
    have HGA:Hid (RGood l.length i qa):=hU (by rw [← hqq];exact HRQ.out.arrive)
    have hqe:darrive ⟨q.s,q.l⟩=qa:=hqq
    rw [hqe] at HQ HLA HDA
    have HQA:=hU hqq
    clear hqa hpa hla hda hka HLI HD HAR hqq hqe
    dsimp only
    have him':i=m:=by omega
    have hdr:drun g l m=qa.s:=by rw [← him'];unfold drun;rw [HQQ.out,HQA.out]
    have HDR:=hU hdr
    clear hdr
    have HO:=hU (onesS HLA.out)
    repeat' (first
     |(refine wpList_load (t:=58) (v:=.agg (scells ya qa.s)) rfl rfl rfl (run_load_whole aggSeat HQ.out rfl) ?_)
     |(refine wpList_store (t:=58) (v:=.agg (scells ya qa.s)) (off:=0) (new:=scells ya qa.s) rfl rfl rfl rfl aggSeat.size HR.out rfl (show 0 + 19≤19 by decide) HO.out rfl ?_;intro Wn hp
       replace HB:=pW hp HB
       replace HX:=pT hp HR HX
       replace HP:=pT hp HR HP
       replace HQ:=pO hp HQ
       replace HLA:=pL hp HR HLA noSeat
       replace HR:=pA hp
       clear hp)
     |go_values|go_skip|go_guarded|(with_reducible refine wg ?_)|go_step|go_upon)
    (try simp only [Exit.inBlock,Exit.then]);refine bodyPost_ret (res_cell Tryz.results33 aggSeat rfl HR.out rfl) rfl ?_
    rw [HDR.out]
    exact ⟨_,rfl,⟨_,_,rfl,HLA.out⟩,HB.out⟩
def evEq (x y:Ev):Bool:=x.pid==y.pid && x.n==y.n && x.r==y.r && x.at_==y.at_
theorem evEq_iff (x y:Ev):evEq x y=true↔x=y:=by
 obtain ⟨a,b,c,d⟩:=x
 obtain ⟨a',b',c',d'⟩:=y
 simp [evEq,and_assoc]
theorem neqEv2 (x y:Ev) (W:World):(binOp .neq 121 (.agg (Ev.cells x)) (.agg (Ev.cells y))).run Tryz.prog W=.ok (.bool (!evEq x y)) W:=by
 unfold Ev.cells evEq
 go_simp
 by_cases h1:x.pid=y.pid <;> by_cases h2:x.n=y.n <;> by_cases h3:x.r=y.r <;> by_cases h4:x.at_=y.at_ <;> simp [h1,h2,h3,h4]
def evsEq:List Ev→List Ev→Bool
 |[],[]=> true
 |x::l,y::m=> evEq x y && evsEq l m
 |_,_=> false
theorem evsEq_iff:∀ l m:List Ev,evsEq l m=true↔l=m
 |[],[]=> by simp [evsEq]
 |[],_::_=> by simp [evsEq]
 |_::_,[]=> by simp [evsEq]
 |x::l,y::m=> by simp [evsEq,evEq_iff,evsEq_iff l m]
theorem evsEq_len {l m:List Ev} (h:l.length ≠ m.length):evsEq l m=false:=by
 cases hh:evsEq l m with
 |false=> rfl
 |true=> exact absurd (congrArg List.length ((evsEq_iff l m).1 hh)) h
theorem evsEq_drop {l m:List Ev} {k:Nat} {x y:Ev} (h:l.take k=m.take k) (hx:l[k]? =some x) (hy:m[k]? =some y) (hne:evEq x y=false):evsEq l m=false:=by
 cases hh:evsEq l m with
 |false=> rfl
 |true=>
  rw [(evsEq_iff l m).1 hh,hy] at hx
  injection hx with hx
  subst hx
  exact ((evEq_iff y y).2 rfl).symm.trans hne
theorem take_more {l m:List Ev} {k:Nat} {x y:Ev} (h:l.take k=m.take k) (hx:l[k]? =some x) (hy:m[k]? =some y) (he:evEq x y=true):l.take (k + 1)=m.take (k + 1):=by
 rw [List.take_add_one,List.take_add_one,h,hx,hy,(evEq_iff x y).1 he]
def SameRF (w:World) (l m:List Ev) (iv:Value) (wr:World):Prop:=∃ k:Nat,k≤l.length∧iv=.int .i64 k∧Hid (l.take k=m.take k)∧Below w.heap.size w wr
theorem EqEvF (u v:Value) (l m:List Ev) (w:World) (h1:Rd 4 Ev.cells w u l) (h2:Rd 4 Ev.cells w v m):Calls Tryz.prog 88 #[u,v] w (Gives (.bool (evsEq l m)) w):=by
 obtain ⟨a1,c1,rfl,hm1,hm2⟩:=h1.shape
 obtain ⟨a2,c2,rfl,_,_⟩:=h2.shape
 have H1:=hU h1.elem.2.2.2
 have H2:=hU h2.elem.2.2.2
 clear h1 h2
 by_cases hlen:l.length=m.length
 · have hln:((l.length:Int)==(m.length:Int))=true:=by simp [hlen]
   have HLEN:=hU hlen
   have hml:(m.length:Int)=(l.length:Int):=by omega
   rw [← hlen]
   clear hlen hln hml
   go_enter Tryz.func88,Tryz.ntmps88
   repeat' (first|go_values|go_skip|go_guarded|(with_reducible refine wg ?_)|go_step|go_upon)
   go_loopw [13] (fun iv wr=> SameRF w l m iv wr) (fun iv _=> l.length - (intOf iv).toNat)
   case atStart=> exact ⟨0,Nat.zero_le _,rfl,hU (by rw [List.take_zero,List.take_zero]),Below.refl _ _⟩
   case round=>
    obtain ⟨k,hk,rfl,htk,hb⟩:=hrel
    by_cases hkl:k<l.length
    · obtain ⟨x,hx⟩:∃ x,l[k]? =some x:=⟨_,List.getElem?_eq_getElem hkl⟩
      obtain ⟨y,hy⟩:∃ y,m[k]? =some y:=⟨_,List.getElem?_eq_getElem (by have:=HLEN.out;omega)⟩
      obtain ⟨g1,o1,rfl,_,hc1⟩:=H1.out k x hx
      obtain ⟨g2,o2,rfl,_,hc2⟩:=H2.out k y hy
      have HC1:=hU hc1
      have HC2:=hU hc2
      have HB:=hU hb
      have HX:=hU hx
      have HY:=hU hy
      have hj1:(k:Int)<(l.length:Int):=by omega
      have hj0:(0:Int)≤(k:Int):=by omega
      clear hc1 hc2 hb hx hy H1 H2
      have hq:=neqEv2 x y
      repeat' (first|go_values|go_skip|go_guarded|(with_reducible refine wg ?_)|go_step|go_upon)
      refine wp_region_noPanic ?_
      refine go0 (S:=fun W=> (∀ j u,(Ev.cells x)[j]? =some u→W.cell? ⟨g1,o1 + k * 4 + j,none⟩=some u)∧(∀ j u,(Ev.cells y)[j]? =some u→W.cell? ⟨g2,o2 + k * 4 + j,none⟩=some u)) [] (⟨HC1.out _ HB.out.drew,HC2.out _ HB.out.drew⟩) fun hS=> ?_
      refine tp 0 ?_;(try simp only [acts])
      refine tp 1 ?_;(try simp only [acts])
      refine tp 2 ?_;(try simp only [acts])
      refine tv 3 (.agg (Ev.cells x)) (fun W hSW=> run_val_load rfl rfl (run_load_arr aggEv rfl hSW.1)) ?_;(try simp only [acts])
      refine tp 4 ?_;(try simp only [acts])
      refine tp 5 ?_;(try simp only [acts])
      refine tp 6 ?_;(try simp only [acts])
      refine tv 7 (.agg (Ev.cells y)) (fun W hSW=> run_val_load rfl rfl (run_load_arr aggEv rfl hSW.2)) ?_;(try simp only [acts])
      refine tp 8 ?_;(try simp only [acts])
      refine doneL (by kernel_rfl) (NoPanic.normal ?_) _
      clear hS
      cases he:evEq x y
      · repeat' (first|go_values|go_skip|go_guarded|(with_reducible refine wg ?_)|go_step|go_upon)
        go_ret
        exact gives_of (by simp [evsEq_drop htk.out HX.out HY.out he]) HB.out.drew
      · repeat' (first|go_values|go_skip|go_guarded|(with_reducible refine wg ?_)|go_step|go_upon)
        exact ⟨⟨k + 1,by omega,by go_num,hU (take_more htk.out HX.out HY.out he),HB.out.drew⟩,by simp [intOf];omega⟩
    · have HB:=hU hb
      have hkk:k=l.length:=by omega
      have hs:evsEq l m=true:=(evsEq_iff l m).2 (by
       have h:=htk.out
       rw [hkk,List.take_length,HLEN.out,List.take_length] at h
       exact h)
      have HSQ:=hU hs
      clear hb hs hkk
      repeat' (first|go_values|go_skip|go_guarded|(with_reducible refine wg ?_)|go_step|go_upon)
      go_ret
      exact gives_of (by simp [HSQ.out]) HB.out
 · have hln:((l.length:Int)==(m.length:Int))=false:=by simp;omega
   have hs:=evsEq_len hlen
   have HSQ:=hU hs
   clear hlen hs
   go_enter Tryz.func88,Tryz.ntmps88
   repeat' (first|go_values|go_skip|go_guarded|(with_reducible refine wg ?_)|go_step|go_upon)
   go_ret
   exact gives_of (by simp [HSQ.out]) (Below.refl _ _)
def evBeg (l m:List Ev):Bool:=decide (l.length≤m.length) && evsEq l (m.take l.length)
theorem SBegins1 (u v:Value) (l m:List Ev) (w:World) (h1:Rd 4 Ev.cells w u l) (h2:Rd 4 Ev.cells w v m):Calls Tryz.prog 48 #[u,v] w (Gives (.bool (evBeg l m)) w):=by
 obtain ⟨a1,c1,rfl,_,_⟩:=h1.shape
 obtain ⟨a2,c2,rfl,hc,hm⟩:=h2.shape
 have h3:decide ((l.length:Int)≤(m.length:Int))=decide (l.length≤m.length):=by simp
 by_cases hle:l.length≤m.length
 · have hle2:l.length≤c2:=by omega
   have hb:evBeg l m=evsEq l (m.take l.length):=by unfold evBeg;rw [decide_eq_true hle,Bool.true_and]
   have e4:=EqEvF _ _ l (m.take l.length) w h1 (Rd.take h2 l.length c2 hle (by omega) hm)
   rw [decide_eq_true hle] at h3
   have HST:=hU e4
   rw [hb]
   clear e4 h1 h2 hb
   go_enter Tryz.func48,Tryz.ntmps48
   repeat' (first|go_values|go_skip|go_guarded|(with_reducible refine wg ?_)|go_step|go_upon)
   refine HST.out.mono ?_
   rintro er Wn ⟨rfl,hb⟩
   have HB:=hU hb
   clear hb
   dsimp only
   repeat' (first|go_values|go_skip|go_guarded|(with_reducible refine wg ?_)|go_step|go_upon)
   go_ret
   exact gives_of rfl HB.out
 · have hb:evBeg l m=false:=by unfold evBeg;rw [decide_eq_false hle,Bool.false_and]
   rw [decide_eq_false hle] at h3
   rw [hb]
   clear h1 h2 hb
   go_enter Tryz.func48,Tryz.ntmps48
   repeat' (first|go_values|go_skip|go_guarded|(with_reducible refine wg ?_)|go_step|go_upon)
   go_ret
   exact gives_of rfl (Below.refl _ _)
theorem SBegins (u v:Value) (l m:List Ev) (w:World) (h1:Rd 4 Ev.cells w u l) (h2:Rd 4 Ev.cells w v m):Calls Tryz.prog 20 #[u,v] w (Gives (.bool (evBeg l m)) w):=by
 have HST:=hU (SBegins1 u v l m w h1 h2)
 clear h1 h2
 go_enter Tryz.func20,Tryz.ntmps20
 repeat' (first|go_values|go_skip|go_guarded|(with_reducible refine wg ?_)|go_step|go_upon)
 refine HST.out.mono ?_
 rintro er Wn ⟨rfl,hb⟩
 have HB:=hU hb
 clear hb
 dsimp only
 repeat' (first|go_values|go_skip|go_guarded|(with_reducible refine wg ?_)|go_step|go_upon)
 go_ret
 exact gives_of rfl HB.out
theorem aggDGuest:Agg Tryz.prog 88 7:=agg_of Tryz.underlying88 rfl (by kernel_rfl)
def exI:ByteArray:=⟨#[6,0,0,1,0,0,0,24]⟩
def exG:SGuest:=⟨⟨64,1,1,1⟩,[exI],[],[]⟩
theorem exG_ok:SGuestOk exG:=⟨by decide,by decide,by decide,⟨by decide,by decide⟩⟩
theorem exD:(drun exG [] 2).k.now=2∧(drun exG [] 2).k.trace=[⟨1,6,1,1⟩]:=by constructor <;> kernel_rfl
theorem one_strD {W:World} {n:Nat} {s:ByteArray} (h:W.heap[n]? =some (.cells #[.string s] 9 (0,0))):Rd 1 strCells W (.slice (some ⟨n,0,none⟩) 1 1) [s]:=
 ⟨_,1,rfl,Nat.le_refl _,(show 1≤9223372036854775807 by decide),.inr ⟨n,0,rfl,hlt h,fun i x hx j u hj=> by
   match i,hx with
   |0,hx=>
    obtain rfl:=Option.some.inj hx
    exact (hcell h _).trans (by simpa [strCells] using hj)⟩⟩
theorem LFewD (g:SGuest) (iv ov nv:Value) (w:World) (hi:Rd 1 strCells w iv g.images) (ho:Rd 5 Chan.cells w ov g.outs) (hn:Rd 5 Chan.cells w nv g.ins_):
 Calls Tryz.prog 32 #[.agg (sgcells g iv ov nv)] w (Gives (.bool (fewS g)) w):=by
 obtain ⟨a1,c1,rfl,_,_⟩:=hi.shape
 obtain ⟨a2,c2,rfl,_,_⟩:=ho.shape
 obtain ⟨a3,c3,rfl,_,_⟩:=hn.shape
 unfold sgcells fewS
 have e1:decide ((g.images.length:Int)≤8)=decide (g.images.length≤8):=by simp;omega
 have e2:decide ((g.outs.length:Int)≤8)=decide (g.outs.length≤8):=by simp;omega
 have e3:decide ((g.ins_.length:Int)≤8)=decide (g.ins_.length≤8):=by simp;omega
 cases h1:decide (g.images.length≤8) <;> cases h2:decide (g.outs.length≤8) <;> cases h3:decide (g.ins_.length≤8)
 all_goals
  rw [h1] at e1
  rw [h2] at e2
  rw [h3] at e3
  clear h1 h2 h3
  go_enter Tryz.func32,Tryz.ntmps32
  repeat' (first|go_values|go_skip|go_guarded|(with_reducible refine wg ?_)|go_step|go_upon)
  go_ret
  exact gives_of (by simp) bel
theorem LShownD (w:World) (hT:Tab w):Calls Tryz.prog 31 #[] w (Gives (.bool true) w):=by
 have HT:=hU (fun W (h:Below w.heap.size w W)=> hT.below h)
 clear hT
 obtain ⟨Wn,hW0,hb0,hx0⟩:=nb1 (W:=w) (.cells #[.int .i64 64,.int .i64 1,.int .i64 1,.int .i64 1] 64) rfl
 have HX:Hid (Wn.heap[w.heap.size]? =some (.cells exG.x.cells 64 (0,0))):=hx0
 have HB:=hU hb0
 clear hb0 hx0
 obtain ⟨rb,hrb,hrb1⟩:=nbz HB
 obtain ⟨Wm,hWm,hba,HS⟩:=nb1 (W:=Wn) (.cells #[.string ⟨#[6,0,0,1,0,0,0,24]⟩] 9) hrb
 have HXo:=HX
 replace HX:=nB hba HX
 replace HB:=nW hba HB
 clear hba
 have HR:Hid (Rd 1 strCells Wm (.slice (some ⟨rb,0,none⟩) 1 1) [exI]):=hU (one_strD HS.out)
 clear HS
 go_enter Tryz.func31,Tryz.ntmps31
 repeat' (first
  |(rw [hW0];clear hW0)
  |(rw [hWm,hrb];clear hWm hrb)
  |(refine wpList_load (t:=64) (v:=.agg exG.x.cells) rfl rfl rfl (run_load_whole aggPart HXo.out rfl) ?_)
  |go_values|go_skip|go_guarded|(with_reducible refine wg ?_)|go_step|go_upon)
 obtain ⟨Wn,rfl⟩:∃ Wn,Wn=Wm:=⟨_,rfl⟩
 clear HXo
 refine (SRun17 exG _ _ _ _ [] 2 Wn HR.out Rd.nil Rd.nil Rd.nil exG_ok (fun a ha=> nomatch ha) (by decide) (HT.out _ HB.out)).mono ?_
 rintro er Wn ⟨v5,rfl,⟨y5,bs5,rfl,hl5⟩,hb⟩
 replace HX:=nB hb HX
 replace HB:=nW hb HB
 clear hb
 have htr:=hl5.tr
 rw [show (2:Int).toNat=2 from rfl,exD.2] at htr
 obtain ⟨ta,tc,hta,htc,htm⟩:=htr.shape
 rw [hta] at htr
 have HRD:=hU htr.rd
 obtain ⟨gb,go_,hga,hgb,hgc⟩:=htr.elem.2.2.2 0 _ rfl
 subst hga
 have HTA:=hU hta
 have HGC:=hU hgc
 have HLS:=hU hl5
 clear hta hgc htr hl5 HR
 dsimp only
 obtain ⟨Wr,hWr⟩:∃ Wr,Wr=Wn:=⟨_,rfl⟩
 have HB5:Hid (Below Wr.heap.size Wr Wn):=hU (by rw [hWr];exact Below.refl _ _)
 rw [← hWr] at HGC HRD
 clear hWr
 obtain ⟨s,hs⟩:∃ s,drun exG [] (2:Int).toNat=s:=⟨_,rfl⟩
 have HNW:Hid (s.k.now=2):=hU (by rw [← hs];exact exD.1)
 rw [hs] at HLS ⊢
 clear hs
 obtain ⟨bHS,hab,habHS⟩:=nbz HB
 have hxHXHS:=nlt HX hab
 obtain ⟨Wn,hWn,hba,HS⟩:=nb1 (W:=Wn) (.cells #[.slice none 0 0,.slice none 0 0,.int .i64 0,.slice none 0 0,.slice none 0 0,.int .i64 0,.slice none 0 0,.int .u64 0,.slice none 0 0,.slice none 0 0,.slice none 0 0,.slice none 0 0,.string ⟨#[]⟩,.slice none 0 0,.slice none 0 0,.int .i64 0,.int .i64 0,.int .i64 0,.int .i64 0] 58) hab
 replace HX:=nB hba HX
 replace HLS:=nL hba HLS
 have HB6:Hid (Below Wr.heap.size Wr Wn):=hU (HB5.out.trans (hba.mono HB5.out.size))
 replace HB:=nW hba HB
 clear hba
 have hz5:Wr.heap.size≤bHS:=by rw [← hab];exact HB5.out.size
 have HO:=hU (onesS HLS.out)
 have HN2:=HNW
 repeat' (first
  |(rw [hWn,hab];clear hWn hab)
  |(refine wpList_store (t:=58) (v:=.agg (scells y5 s)) (off:=0) (new:=scells y5 s) rfl rfl rfl rfl aggSeat.size HS.out rfl (show 0 + 19≤19 by decide) HO.out rfl ?_;intro Wn hp
    replace HB6:Hid (Below Wr.heap.size Wr Wn):=hU (Below.put HB6.out hp hz5)
    replace HB:=pW hp HB
    replace HX:=pT hp HS HX
    replace HLS:=pL hp HS HLS noSeat
    replace HS:=pA hp
    clear hp
    have k7:Wn.cell? ⟨bHS,7,none⟩=some (.int .u64 2):=by rw [← HNW.out];exact hcell HS.out 7
    have k13:Wn.cell? ⟨bHS,13,none⟩=some (.slice (some ⟨gb,go_,none⟩) 1 tc):=(hcell HS.out 13).trans (congrArg some HTA.out)
    have e2:Wn.cell? ⟨gb,go_ + 2,none⟩=some (.int .u32 1):=HGC.out Wn HB6.out 2 _ rfl)
  |go_values|go_skip|go_guarded|(with_reducible refine wg ?_)|go_step|go_upon)
 refine (SBegins (.slice none 0 0) _ [] [⟨1,6,1,1⟩] _ Rd.nil (HRD.out.below HB6.out)).mono ?_
 rintro er Wn ⟨rfl,hb⟩
 replace HX:=nB hb HX
 replace HS:=nB hb HS
 replace HLS:=nL hb HLS
 replace HB:=nW hb HB
 clear hb
 dsimp only
 repeat' (first|go_values|go_skip|go_guarded|(with_reducible refine wg ?_)|go_step|go_upon)
 go_ret
 exact gives_of rfl HB.out
end Kn
end Go.Proofs.YtkepkcjjenidgaaGreatDoor
namespace Go.Proofs.YtkepkcjjenidgaaGreatDoor
open Go.ChangeShapes Go.WideShapes Go.ChangeAt Go.RowKit Go.Joins Go.Deep KR
namespace Kn
section
variable {H:Type} {enc:TypeId × Value→H} {w:World} {base b:Nat} {sp:Nat→Bool} {hd:Bool} {r:Reach}
instance:Inhabited Ev:=⟨⟨0,0,0,0⟩⟩
theorem cells_st:Tryz.prog.cellsOf 93=3:=by kernel_rfl
theorem cells_sts:Tryz.prog.cellsOf 60=1:=by kernel_rfl
theorem open_stampr {fuel:Nat} {cs:List Value} {x:DataW H × List MemPlace} (h:DataW.trod enc Tryz.prog w b sp hd fuel 60 cs=some x):
 ∃ v l,cs=[v]∧Rd 3 Stamp.cells w v l∧∀ a ∈ l,a.body.size ∈ x.1.weights Tryz.prog 60:=by
 obtain ⟨v,l,h1,h2,h3⟩:=open_rd (f:=Stamp.cells) (Q:=fun a d=> a.body.size ∈ d.weights Tryz.prog 93) Tryz.underlying60 cells_st (by decide) (fun _=> rfl) (fun n cs y hl h=> by
  match cs,hl with
  |[c0,c1,c2],_=>
   obtain ⟨xs,n,rfl,rfl,_,hl,hgg⟩:=DataW.trod_struct Tryz.underlying93 h
   have hx:xs.length=3:=hl
   have g0':DataW.trod enc Tryz.prog w b sp hd n 32 (([c0,c1,c2].drop 0).take (Tryz.prog.cellsOf 32))=xs[0]? :=hgg 0 _ rfl
   rw [List.getElem?_eq_getElem (by omega),cells_u64] at g0'
   have g0:DataW.trod enc Tryz.prog w b sp hd n 32 [c0]=some (xs[0]'(by omega)):=g0'
   have g1':DataW.trod enc Tryz.prog w b sp hd n 3 (([c0,c1,c2].drop 1).take (Tryz.prog.cellsOf 3))=xs[1]? :=hgg 1 _ rfl
   rw [List.getElem?_eq_getElem (by omega),cells_int] at g1'
   have g1:DataW.trod enc Tryz.prog w b sp hd n 3 [c1]=some (xs[1]'(by omega)):=g1'
   have g2':DataW.trod enc Tryz.prog w b sp hd n 9 (([c0,c1,c2].drop 2).take (Tryz.prog.cellsOf 9))=xs[2]? :=hgg 2 _ rfl
   rw [List.getElem?_eq_getElem (by omega),cells_str] at g2'
   have g2:DataW.trod enc Tryz.prog w b sp hd n 9 [c2]=some (xs[2]'(by omega)):=g2'
   obtain ⟨r0,rfl,u0⟩:=open_u64' g0
   obtain ⟨r1,rfl,_⟩:=open_int' g1
   obtain ⟨r2,rfl,hs⟩:=open_str' g2
   refine ⟨⟨r0,r1,r2⟩,rfl,?_⟩
   unfold DataW.weights
   rw [Tryz.underlying93]
   dsimp only
   refine DataW.weights_mem_each (j:=2) (t:=9) (d:=.lit (.string r2.data.toList)) (by rfl) ?_ r2.size ?_
   · rw [List.getElem?_map,List.getElem?_eq_getElem (by omega),hs]
     rfl
   · simp only [DataW.weights,List.mem_singleton]
     exact Array.length_toList.symm) h
 exact ⟨v,l,h1,h2,fun a ha=> by obtain ⟨d,hq,hw⟩:=h3 a ha;exact hw _ hq⟩
end
end Kn
end Go.Proofs.YtkepkcjjenidgaaGreatDoor
