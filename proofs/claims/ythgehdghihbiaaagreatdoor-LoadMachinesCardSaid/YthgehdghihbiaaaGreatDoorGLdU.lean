/- load.unpack's num: a number off bytes, or why not, told once. No condition. load.unpack's loops: what stands where, and how it stays. No condition. load.unpack, walked. Condition: bytes are as many as a string can have. -/
import Derived.Test.YthgehdghihbiaaaGreatDoorProg
import Derived.Test.YthgehdghihbiaaaGreatDoorGLdP
set_option linter.unusedVariables false
set_option maxRecDepth 100000
set_option maxHeartbeats 8000000
set_option linter.unusedSimpArgs false
namespace Go.Proofs.YthgehdghihbiaaaGreatDoor
open Go.RowKit
namespace Unp
def ErrV (W:World) (e:Option Nat) (v:Value):Prop:=
 match e with
 |none=> v=.nilIface
 |some c=> ∃ (q:Int) (x:Nat),v=.iface 148 (.agg #[.int .i64 q,.iface 108 (.pointer (some ⟨x,0,none⟩))])∧W.heap[x]? =some (.cells #[.int .i64 (c:Int)] 112 (0,0))
def Cl (b:Nat) (s:ByteArray) (p:Nat) (e:Option Nat) (W:World):Prop:=
 W.heap[b]? =some (.cells #[.string s] 9 (0,0))∧(∃ v,W.heap[b + 1]? =some (.cells #[v] 80 (0,0))∧ErrV W e v)∧W.heap[b + 2]? =some (.cells #[.int .i64 (p:Int)] 3 (0,0))
structure Kept (b B:Nat) (W W':World):Prop where
 os:W'.os=W.os
 tape:W'.tape=W.tape
 output:W'.output=W.output
 size:W.heap.size≤W'.heap.size
 block:∀ k,k<B→k ≠ b + 1→k ≠ b + 2→W'.heap[k]? =W.heap[k]?
theorem Kept.refl (b B:Nat) (W:World):Kept b B W W:=⟨rfl,rfl,rfl,Nat.le_refl _,fun _ _ _ _=> rfl⟩
theorem Kept.trans {b B:Nat} {W W1 W2:World} (h:Kept b B W W1) (k:Kept b B W1 W2):Kept b B W W2:=
 ⟨k.os.trans h.os,k.tape.trans h.tape,k.output.trans h.output,Nat.le_trans h.size k.size,fun i h1 h2 h3=> (k.block i h1 h2 h3).trans (h.block i h1 h2 h3)⟩
theorem Kept.mono {b B B':Nat} {W W':World} (h:Kept b B W W') (hB:B'≤B):Kept b B' W W':=⟨h.os,h.tape,h.output,h.size,fun i h1 h2 h3=> h.block i (by omega) h2 h3⟩
theorem Kept.of {b B:Nat} {W W':World} (h:Below B W W'):Kept b B W W':=⟨h.os,h.tape,h.output,h.size,fun i h1 _ _=> h.block i h1⟩
theorem Kept.below {b B:Nat} {W W':World} (h:Kept b B W W') (hB:b≤B):Below b W W':=⟨h.os,h.tape,h.output,h.size,fun i h1=> h.block i (by omega) (by omega) (by omega)⟩
theorem heap_cell {W:World} {b:Nat} {cs:Array Value} {T:TypeId} {fr:Nat × Nat} (h:W.heap[b]? =some (.cells cs T fr)) (j:Nat):W.cell? ⟨b,j,none⟩=cs[j]? :=Lib.cell_of_heap h j
theorem heap_lt {W:World} {b:Nat} {o:Obj} (h:W.heap[b]? =some o):b<W.heap.size:=(Array.getElem?_eq_some_iff.1 h).1
theorem heap_set {W:World} {b:Nat} {v x:Value} {T:TypeId} (h:W.heap[b]? =some (.cells #[v] T (0,0))):(W.setCell ⟨b,0,none⟩ x).heap[b]? =some (.cells #[x] T (0,0)):=by
 simp [World.setCell,Array.getElem?_modify,h]
theorem heap_set_ne {W:World} {b k:Nat} {x:Value} (h:k ≠ b):(W.setCell ⟨b,0,none⟩ x).heap[k]? =W.heap[k]? :=Below.heap_setCell _ _ _ _ (fun e=> h (by simp [e]))
theorem heap_new (W:World) (o:Obj):(W.alloc o).heap[W.heap.size]? =some o:=heap_alloc_new W o
theorem heap_old {W:World} {o:Obj} {k:Nat} {u:Obj} (h:W.heap[k]? =some u):(W.alloc o).heap[k]? =some u:=by
 rw [Lib.alloc_old W o k (heap_lt h)]
 exact h
theorem cl_fail {b:Nat} {s:ByteArray} {p:Nat} {W:World} (h:Cl b s p none W) (c:Nat) (q C:Int) (hC:C=c):
 Cl b s p (some c) ((W.setCell ⟨b + 1,0,none⟩ (.iface 148 (.agg #[.int .i64 q,.iface 108 (.pointer (some ⟨W.heap.size,0,none⟩))]))).alloc (.cells #[.int .i64 C] 112))∧
 Kept b W.heap.size W ((W.setCell ⟨b + 1,0,none⟩ (.iface 148 (.agg #[.int .i64 q,.iface 108 (.pointer (some ⟨W.heap.size,0,none⟩))]))).alloc (.cells #[.int .i64 C] 112)):=by
 obtain ⟨h0,⟨v,h1,_⟩,h2⟩:=h
 subst hC
 have hl:=heap_lt h1
 have hl2:=heap_lt h2
 have hsz:∀ x,(W.setCell ⟨b + 1,0,none⟩ x).heap.size=W.heap.size:=fun x=> by simp [World.setCell]
 refine ⟨⟨?_,⟨_,heap_old (heap_set h1),q,W.heap.size,rfl,?_⟩,?_⟩,?_⟩
 · exact heap_old (by rw [heap_set_ne (by omega)];exact h0)
 · have:=heap_new (W.setCell ⟨b + 1,0,none⟩ (.iface 148 (.agg #[.int .i64 q,.iface 108 (.pointer (some ⟨W.heap.size,0,none⟩))]))) (.cells #[.int .i64 (c:Int)] 112)
   rw [hsz] at this
   exact this
 · exact heap_old (by rw [heap_set_ne (by omega)];exact h2)
 · refine ⟨rfl,rfl,rfl,by simp [World.setCell],fun k hk hk1 hk2=> ?_⟩
   rw [Lib.alloc_old _ _ k (by rw [hsz];exact hk),heap_set_ne hk1]
theorem cl_next {b:Nat} {s:ByteArray} {p:Nat} {e:Option Nat} {W:World} (h:Cl b s p none W) (p':Nat):
 Cl b s p' none (W.setCell ⟨b + 2,0,none⟩ (.int .i64 (p':Int)))∧Kept b W.heap.size W (W.setCell ⟨b + 2,0,none⟩ (.int .i64 (p':Int))):=by
 obtain ⟨h0,⟨v,h1,hv⟩,h2⟩:=h
 refine ⟨⟨?_,⟨v,?_,hv⟩,heap_set h2⟩,?_⟩
 · rw [heap_set_ne (by omega)];exact h0
 · rw [heap_set_ne (by omega)];exact h1
 · exact ⟨rfl,rfl,rfl,by simp [World.setCell],fun k hk hk1 hk2=> heap_set_ne hk2⟩
abbrev cap (b:Nat) (m:Int):Array Value:=#[.int .i64 m,.pointer (some ⟨b + 1,0,none⟩),.pointer (some ⟨b + 1 + 1,0,none⟩),.pointer (some ⟨b,0,none⟩)]
def Fails (b:Nat) (s:ByteArray) (p c:Nat) (W:World) (ev:Ending) (W':World):Prop:=ev=.returned (.int .i64 0)∧Cl b s p (some c) W'∧Kept b W.heap.size W W'
def Takes (b:Nat) (s:ByteArray) (p:Nat) (n:Int) (W:World) (ev:Ending) (W':World):Prop:=ev=.returned (.int .i64 n)∧Cl b s (p + 1) none W'∧Kept b W.heap.size W W'
theorem num_err (b:Nat) (s:ByteArray) (p c:Nat) (m:Int) (W:World) (h:Cl b s p (some c) W):Calls Tryz.prog 56 (cap b m) W (Is (.int .i64 0) W):=by
 obtain ⟨h0,⟨v,h1,q,x,rfl,hx⟩,h2⟩:=h
 have c1:W.cell? ⟨b + 1,0,none⟩=some (.iface 148 (.agg #[.int .i64 q,.iface 108 (.pointer (some ⟨x,0,none⟩))])):=heap_cell h1 0
 clear h0 h1 h2 hx
 go_enter Tryz.func56,Tryz.ntmps56
 repeat' (first|go_values|go_skip|go_guarded|(with_reducible refine wg ?_)|go_step|go_upon|go_quiet (fail))
 all_goals go_ret
 all_goals exact is_int rfl
theorem num_more (b:Nat) (s:ByteArray) (p:Nat) (m:Int) (W:World) (h:Cl b s p none W) (hs:s.size≤140737488355328) (hp:s.size≤p) (hp':p≤140737488355328):Calls Tryz.prog 56 (cap b m) W (Fails b s p 2 W):=by
 have HF:=hU (cl_fail h 2 p 2 rfl)
 obtain ⟨h0,⟨v,h1,rfl⟩,h2⟩:=h
 have c1:W.cell? ⟨b + 1,0,none⟩=some .nilIface:=heap_cell h1 0
 have c0:W.cell? ⟨b,0,none⟩=some (.string s):=heap_cell h0 0
 have c2:W.cell? ⟨b + 2,0,none⟩=some (.int .i64 (p:Int)):=heap_cell h2 0
 have hl:=heap_lt h2
 have hl0:b<W.heap.size:=by omega
 have hl1:b + 1<W.heap.size:=by omega
 have f1:W.frozen? ⟨b + 1,0,none⟩=false:=Lib.frozen_of_heap h1 0
 have f2:W.frozen? ⟨b + 2,0,none⟩=false:=Lib.frozen_of_heap h2 0
 clear h0 h1 h2
 have hpI:¬ (p:Int)<s.size:=by omega
 go_enter Tryz.func56,Tryz.ntmps56
 repeat' (first|go_values|go_skip|go_guarded|(with_reducible refine wg ?_)|go_step|go_upon|go_quiet (fail))
 go_ret
 exact ⟨rfl,HF.out⟩
theorem num_big (b:Nat) (s:ByteArray) (p:Nat) (m:Int) (W:World) (h:Cl b s p none W) (hs:s.size≤140737488355328) (hp:p<s.size) (hm:m<(s[p].toNat:Int)):Calls Tryz.prog 56 (cap b m) W (Fails b s p 4 W):=by
 have HF:=hU (cl_fail h 4 p 4 rfl)
 obtain ⟨h0,⟨v,h1,rfl⟩,h2⟩:=h
 have c1:W.cell? ⟨b + 1,0,none⟩=some .nilIface:=heap_cell h1 0
 have c0:W.cell? ⟨b,0,none⟩=some (.string s):=heap_cell h0 0
 have c2:W.cell? ⟨b + 2,0,none⟩=some (.int .i64 (p:Int)):=heap_cell h2 0
 have hl:=heap_lt h2
 have hl0:b<W.heap.size:=by omega
 have hl1:b + 1<W.heap.size:=by omega
 have f1:W.frozen? ⟨b + 1,0,none⟩=false:=Lib.frozen_of_heap h1 0
 have f2:W.frozen? ⟨b + 2,0,none⟩=false:=Lib.frozen_of_heap h2 0
 clear h0 h1 h2
 have hpI:(p:Int)<s.size:=by omega
 have hp0:(0:Int)≤p:=by omega
 have hx1:(s[p].toNat:Int)≤255:=by have:=s[p].toNat_lt;omega
 go_enter Tryz.func56,Tryz.ntmps56
 repeat' (first|go_values|go_skip|go_guarded|(with_reducible refine wg ?_)|go_step|go_upon|go_quiet (fail))
 go_ret
 exact ⟨rfl,HF.out⟩
theorem num_ok (b:Nat) (s:ByteArray) (p:Nat) (m:Int) (W:World) (h:Cl b s p none W) (hs:s.size≤140737488355328) (hp:p<s.size) (hm:¬ m<(s[p].toNat:Int)):Calls Tryz.prog 56 (cap b m) W (Takes b s p s[p].toNat W):=by
 have HF:=hU (cl_next (e:=none) h (p + 1))
 obtain ⟨h0,⟨v,h1,rfl⟩,h2⟩:=h
 have c1:W.cell? ⟨b + 1,0,none⟩=some .nilIface:=heap_cell h1 0
 have c0:W.cell? ⟨b,0,none⟩=some (.string s):=heap_cell h0 0
 have c2:W.cell? ⟨b + 2,0,none⟩=some (.int .i64 (p:Int)):=heap_cell h2 0
 have hl:=heap_lt h2
 have hl0:b<W.heap.size:=by omega
 have hl1:b + 1<W.heap.size:=by omega
 have f1:W.frozen? ⟨b + 1,0,none⟩=false:=Lib.frozen_of_heap h1 0
 have f2:W.frozen? ⟨b + 2,0,none⟩=false:=Lib.frozen_of_heap h2 0
 clear h0 h1 h2
 have hpI:(p:Int)<s.size:=by omega
 have hp0:(0:Int)≤p:=by omega
 have hx1:(s[p].toNat:Int)≤255:=by have:=s[p].toNat_lt;omega
 go_enter Tryz.func56,Tryz.ntmps56
 repeat' (first|go_values|go_skip|go_guarded|(with_reducible refine wg ?_)|go_step|go_upon|go_quiet (fail))
 go_ret
 exact ⟨rfl,HF.out⟩
theorem cl_same {b:Nat} {s:ByteArray} {p:Nat} {e:Option Nat} {W W':World} (h:Cl b s p e W)
 (hs:∀ k:Nat,(k=b∨k=b + 1∨k=b + 2∨∃ c,W.heap[k]? =some (.cells c 112 (0,0)))→W'.heap[k]? =W.heap[k]?):Cl b s p e W':=by
 obtain ⟨h0,⟨v,h1,hv⟩,h2⟩:=h
 refine ⟨by rw [hs b (by simp)];exact h0,⟨v,by rw [hs (b + 1) (by simp)];exact h1,?_⟩,by rw [hs (b + 2) (by simp)];exact h2⟩
 match e,hv with
 |none,hv=> exact hv
 |some c,⟨q,x,hv,hx⟩=> exact ⟨q,x,hv,by rw [hs x (.inr (.inr (.inr ⟨_,hx⟩)))];exact hx⟩
def RowAt (W:World) (v:Value) (r:List ByteArray):Prop:=(∃ B,W.ownsRow B 9 1 v r.length (r.map Value.string))∧∀ x ∈ r,x.size≤64
theorem rowAt_same {W W':World} {v:Value} {r:List ByteArray} (h:RowAt W v r) (hs:∀ (g:Nat) (cur:Array Value),W.heap[g]? =some (.cells cur 9 (0,0))→W'.heap[g]? =W.heap[g]?):RowAt W' v r:=by
 obtain ⟨⟨B,h⟩,h64⟩:=h
 exact ⟨⟨B,ownsRow_same h (fun g hg=> by obtain ⟨_,_,cur,hc⟩:=ownBlock_lt h hg;exact hs g cur hc)⟩,h64⟩
theorem ne_of_types {W:World} {g k:Nat} {c c':Array Value} {T T':TypeId} (h:W.heap[g]? =some (.cells c T (0,0))) (h':W.heap[k]? =some (.cells c' T' (0,0))) (hT:T ≠ T'):g ≠ k:=by
 rintro rfl
 rw [h] at h'
 simp only [Option.some.injEq,Obj.cells.injEq] at h'
 exact hT h'.2.1
theorem rowAt_kept {b:Nat} {s:ByteArray} {p:Nat} {e:Option Nat} {W W':World} {v:Value} {r:List ByteArray} {B:Nat} (hc:Cl b s p e W) (hk:Kept b B W W') (hB:W.heap.size≤B) (h:RowAt W v r):RowAt W' v r:=by
 obtain ⟨h0,⟨u,h1,_⟩,h2⟩:=hc
 exact rowAt_same h (fun g cur hg=> hk.block g (Nat.lt_of_lt_of_le (heap_lt hg) hB) (ne_of_types hg h1 (by decide)) (ne_of_types hg h2 (by decide)))
theorem list_kept {b:Nat} {s:ByteArray} {p:Nat} {e:Option Nat} {W W':World} {v:Value} {n:Nat} {xs:List Value} {B base:Nat} (hc:Cl b s p e W) (hk:Kept b B W W') (hB:W.heap.size≤B) (h:W.ownsRow base 43 1 v n xs):W'.ownsRow base 43 1 v n xs:=by
 obtain ⟨h0,⟨u,h1,_⟩,h2⟩:=hc
 exact ownsRow_same h (fun g hg=> by
  obtain ⟨_,hl,cur,hcur⟩:=ownBlock_lt h hg
  exact hk.block g (Nat.lt_of_lt_of_le hl hB) (ne_of_types hcur h1 (by decide)) (ne_of_types hcur h2 (by decide)))
def Told (s:ByteArray) (k:Nat) (acc:List (List ByteArray)) (p:Nat):Option Nat→Prop
 |none=> Ld.unpack s.data.toList=Ld.finish (Ld.preR acc (Ld.rows k (s.data.toList.drop p)))
 |some c=> Ld.unpack s.data.toList=.error c
def OuterAt (w:World) (s:ByteArray) (N:Nat) (lv iv:Value) (W:World) (i p:Nat) (e:Option Nat) (rs:List (Value × List ByteArray)):Prop:=
 i≤N∧iv=.int .i64 (i:Int)∧rs.length=i∧p≤s.size∧Cl w.heap.size s p e W∧Below w.heap.size w W∧w.heap.size + 2<W.heap.size∧W.ownsRow w.heap.size 43 1 lv i (rs.map (·.1))∧(e=none→∀ x ∈ rs,RowAt W x.1 x.2)∧Told s (N - i) (rs.map (·.2)) p e
def Outer (w:World) (s:ByteArray) (N:Nat) (lv iv:Value) (W:World):Prop:=∃ i p e rs,OuterAt w s N lv iv W i p e rs
def Begun (b:Nat) (s:ByteArray) (W:World) (ev:Ending) (W':World):Prop:=∃ (N p:Nat) (e:Option Nat),ev=.returned (.int .i64 (N:Int))∧N≤4∧p≤s.size∧Cl b s p e W'∧Kept b W.heap.size W W'∧Told s N [] p e
theorem num_first (b:Nat) (s:ByteArray) (W:World) (h:Cl b s 0 none W) (hs:s.size≤140737488355328):Calls Tryz.prog 56 (cap b 4) W (Begun b s W):=by
 by_cases hp:0<s.size
 · by_cases hm:4<s[0].toNat
   · refine (num_big b s 0 4 W h hs hp (by omega)).mono ?_
     rintro ev W' ⟨rfl,hc,hk⟩
     exact ⟨0,0,some 4,rfl,by omega,by omega,hc,hk,Ld.unp_big hp hm⟩
   · refine (num_ok b s 0 4 W h hs hp (by omega)).mono ?_
     rintro ev W' ⟨rfl,hc,hk⟩
     exact ⟨s[0].toNat,1,none,rfl,by omega,by omega,hc,hk,Ld.unp_go hp hm⟩
 · refine (num_more b s 0 4 W h hs (by omega) (by omega)).mono ?_
   rintro ev W' ⟨rfl,hc,hk⟩
   exact ⟨0,0,some 2,rfl,by omega,by omega,hc,hk,Ld.unp_more (by omega)⟩
def RowGo (s:ByteArray) (k:Nat) (acc:List (List ByteArray)) (p n p':Nat):Option Nat→Prop
 |none=> ∃ hp:p<s.size,p'=p + 1∧n=s[p].toNat∧n≤8∧Told s (k + 1) acc p none
 |some c=> n=0∧Ld.unpack s.data.toList=.error c
def RowBegun (b:Nat) (s:ByteArray) (k:Nat) (acc:List (List ByteArray)) (p:Nat) (e:Option Nat) (W:World) (ev:Ending) (W':World):Prop:=
 ∃ (n p':Nat) (e':Option Nat),ev=.returned (.int .i64 (n:Int))∧n≤8∧p'≤s.size∧(e'=none→e=none)∧Cl b s p' e' W'∧Kept b W.heap.size W W'∧RowGo s k acc p n p' e'
theorem num_row (b:Nat) (s:ByteArray) (k:Nat) (acc:List (List ByteArray)) (p:Nat) (e:Option Nat) (W:World) (h:Cl b s p e W) (hs:s.size≤140737488355328) (hps:p≤s.size) (ht:Told s (k + 1) acc p e):Calls Tryz.prog 56 (cap b 8) W (RowBegun b s k acc p e W):=by
 match e,h,ht with
 |some c,h,ht=>
  refine (num_err b s p c 8 W h).mono ?_
  rintro ev W' ⟨rfl,rfl⟩
  exact ⟨0,p,some c,rfl,by omega,hps,(fun hh=> by cases hh),h,Kept.refl _ _ _,rfl,ht⟩
 |none,h,ht=>
  by_cases hp:p<s.size
  · by_cases hm:8<s[p].toNat
    · refine (num_big b s p 8 W h hs hp (by omega)).mono ?_
      rintro ev W' ⟨rfl,hc,hk⟩
      exact ⟨0,p,some 4,rfl,by omega,hps,fun _=> rfl,hc,hk,rfl,Ld.rows_big ht hp hm⟩
    · refine (num_ok b s p 8 W h hs hp (by omega)).mono ?_
      rintro ev W' ⟨rfl,hc,hk⟩
      exact ⟨s[p].toNat,p + 1,none,rfl,by omega,by omega,fun _=> rfl,hc,hk,hp,rfl,rfl,by omega,ht⟩
  · refine (num_more b s p 8 W h hs (by omega) (by omega)).mono ?_
    rintro ev W' ⟨rfl,hc,hk⟩
    exact ⟨0,p,some 2,rfl,by omega,hps,fun _=> rfl,hc,hk,rfl,Ld.rows_more ht (by omega)⟩
theorem num_str (b:Nat) (s:ByteArray) (k:Nat) (acc:List ByteArray) (p:Nat) (W:World) (X:Except Nat (List (List UInt8) × List UInt8)) (h:Cl b s p none W) (hs:s.size≤140737488355328) (hps:p≤s.size) (hx:X=Ld.pre acc (Ld.strs (k + 1) (s.data.toList.drop p))):
 (∃ c,X=.error c∧Calls Tryz.prog 56 (cap b 64) W (Fails b s p c W))∨
 (∃ hp:p<s.size,s[p].toNat≤64∧Calls Tryz.prog 56 (cap b 64) W (Takes b s p s[p].toNat W)):=by
 by_cases hp:p<s.size
 · by_cases hm:64<s[p].toNat
   · exact .inl ⟨4,Ld.strs_big hx hp hm,num_big b s p 64 W h hs hp (by omega)⟩
   · exact .inr ⟨hp,by omega,num_ok b s p 64 W h hs hp (by omega)⟩
 · exact .inl ⟨2,Ld.strs_more hx (by omega),num_more b s p 64 W h hs (by omega) (by omega)⟩
def RowTold (s:ByteArray) (n j:Nat) (acc:List ByteArray) (p0 p:Nat):Option Nat→Prop
 |none=> Ld.strs n (s.data.toList.drop p0)=Ld.pre acc (Ld.strs (n - j) (s.data.toList.drop p))
 |some c=> n=0
def InnerAt (b B:Nat) (s:ByteArray) (n p0:Nat) (W0:World) (rv jv:Value) (W:World) (j p:Nat) (e:Option Nat) (acc:List ByteArray):Prop:=
 j≤n∧jv=.int .i64 (j:Int)∧acc.length=j∧p≤s.size∧Cl b s p e W∧Kept b B W0 W∧W.ownsRow B 9 1 rv j (acc.map Value.string)∧(∀ x ∈ acc,x.size≤64)∧RowTold s n j acc p0 p e
def Inner (b B:Nat) (s:ByteArray) (n p0:Nat) (e:Option Nat) (W0:World) (rv jv:Value) (W:World):Prop:=∃ j p acc,InnerAt b B s n p0 W0 rv jv W j p e acc
theorem outer_next {w W W1 Wr W':World} {s:ByteArray} {N i p pr:Nat} {e er:Option Nat} {rs:List (Value × List ByteArray)} {lv iv rv lv':Value} {r:List ByteArray}
 (h:OuterAt w s N lv iv W i p e rs) (hi:i<N) (hk1:Kept w.heap.size W.heap.size W W1) (hc1:∃ p1 e1,Cl w.heap.size s p1 e1 W1) (hkr:Kept w.heap.size W1.heap.size W1 Wr) (hcr:Cl w.heap.size s pr er Wr) (hpr:pr≤s.size)
 (hrow:er=none→e=none∧Wr.ownsRow W1.heap.size 9 1 rv r.length (r.map Value.string)∧∀ x ∈ r,x.size≤64)
 (ht:Told s (N - i - 1) (rs.map (·.2) ++ [r]) pr er)
 (ho:W'.ownsRow w.heap.size 43 1 lv' (i + 1) (rs.map (·.1) ++ [rv])) (hg:(Wr.alloc (.cells #[rv] 43)).grownBy W' lv.ownBlock):
 Outer w s N lv' (.int .i64 ((i:Int) + 1)) W':=by
 obtain ⟨h1,h2,h3,h4,h5,h6,h7,h8,h9,h10⟩:=h
 obtain ⟨p1',e1,hc1⟩:=hc1
 have hl1:W1.ownsRow w.heap.size 43 1 lv i (rs.map (·.1)):=list_kept h5 hk1 (Nat.le_refl _) h8
 have hlr:Wr.ownsRow w.heap.size 43 1 lv i (rs.map (·.1)):=list_kept hc1 hkr (Nat.le_refl _) hl1
 have hst:∀ (k:Nat) (c:Array Value) (T:TypeId),Wr.heap[k]? =some (.cells c T (0,0))→T ≠ 43→W'.heap[k]? =Wr.heap[k]? :=by
  intro k c T hk hT
  have hlt:=heap_lt hk
  rw [hg.block k (by simp;omega) (by
   intro hh
   obtain ⟨_,_,cur,hcur⟩:=ownBlock_lt hlr hh.symm
   exact ne_of_types hk hcur hT rfl),Lib.alloc_old Wr _ k hlt]
 have hbel:Below w.heap.size W Wr:=(hk1.below (by omega)).trans ((hkr.mono hk1.size).below (by omega))
 have hsz:Wr.heap.size + 1≤W'.heap.size:=by have:=hg.size;simp at this;exact this
 have hWr:=hbel.size
 refine ⟨i + 1,pr,er,rs ++ [(rv,r)],by omega,by go_num,by simp [h3],hpr,?_,?_,by omega,by simpa using ho,?_,?_⟩
 · have hcr':=hcr
   obtain ⟨c0,⟨v,c1,_⟩,c2⟩:=hcr'
   refine cl_same hcr ?_
   rintro k (rfl|rfl|rfl|⟨c,hk⟩)
   · exact hst _ _ _ c0 (by decide)
   · exact hst _ _ _ c1 (by decide)
   · exact hst _ _ _ c2 (by decide)
   · exact hst _ _ _ hk (by decide)
 · refine (h6.trans hbel).trans ⟨hg.os,hg.tape,hg.output,by omega,fun k hk=> ?_⟩
   rw [hg.block k (by simp;omega) (by
    intro hh
    obtain ⟨hge,_⟩:=ownBlock_lt hlr hh.symm
    omega),Lib.alloc_old Wr _ k (by omega)]
 · intro hn x hx
   obtain ⟨he,hro,h64⟩:=hrow hn
   rcases List.mem_append.mp hx with hx|hx
   · have a1:=rowAt_kept h5 hk1 (Nat.le_refl _) (h9 he x hx)
     have a2:=rowAt_kept hc1 hkr (Nat.le_refl _) a1
     exact rowAt_same a2 (fun g cur hgc=> hst g cur _ hgc (by decide))
   · obtain rfl:x=(rv,r):=by simpa using hx
     exact rowAt_same ⟨⟨_,hro⟩,h64⟩ (fun g cur hgc=> hst g cur _ hgc (by decide))
 · rw [List.map_append,show N - (i + 1)=N - i - 1 by omega]
   exact ht
theorem cells_of {W:World} {B:Nat} {T:TypeId} {v:Value} {n:Nat} {xs:List Value} (h:W.ownsRow B T 1 v n xs) (d:Value):∃ a c,v=.slice a n c∧(xs.length=n∧n≤c∧c≤9223372036854775807)∧(n=0∨∃ b,a=some ⟨b,0,none⟩∧b<W.heap.size∧∀ i,i<n→W.cell? ⟨b,i,none⟩=some (xs.getD i d)):=by
 obtain ⟨hl,hn|⟨g,cap,cur,rfl,hb,hg,hn,hm,hc,ht⟩⟩:=h
 · obtain ⟨rfl,rfl⟩:=hn
   exact ⟨none,0,rfl,⟨by simpa using hl,Nat.le_refl _,by omega⟩,.inl rfl⟩
 · refine ⟨_,_,rfl,⟨by simpa using hl,hn,hm⟩,.inr ⟨g,rfl,heap_lt hg,fun i hi=> ?_⟩⟩
   rw [heap_cell hg i,← ht]
   have hi':i<cur.size:=by omega
   rw [Array.getElem?_eq_getElem hi',List.getD_eq_getElem?_getD,List.getElem?_take_of_lt (by omega),Array.getElem?_toList,Array.getElem?_eq_getElem hi']
   rfl
theorem strs_of {W:World} {v:Value} {r:List ByteArray} (h:RowAt W v r) (hr:r.length≤9223372036854775807):StrsAt W v r:=by
 obtain ⟨⟨B,h⟩,h64⟩:=h
 obtain ⟨a,c,rfl,hl,h0⟩:=cells_of h (.string ByteArray.empty)
 refine ⟨a,c,rfl,hl.2,fun x hx=> by have:=h64 x hx;omega,?_⟩
 rcases h0 with h0|⟨b,rfl,hb,hc⟩
 · exact .inl (List.length_eq_zero_iff.mp h0)
 · refine .inr ⟨b,0,rfl,hb,fun i hi=> ?_⟩
   rw [Nat.zero_add,hc i hi]
   simp [List.getD_eq_getElem?_getD,List.getElem?_map,List.getElem?_eq_getElem hi]
theorem imgs_of {W:World} {B:Nat} {lv:Value} {rs:List (Value × List ByteArray)} {n:Nat} (hn:rs.length=n) (hn4:n≤1000) (h:W.ownsRow B 43 1 lv n (rs.map (·.1))) (hr:∀ x ∈ rs,RowAt W x.1 x.2) (h8:∀ x ∈ rs,x.2.length≤9223372036854775807):ImgsAt W lv (rs.map (·.2)):=by
 subst hn
 obtain ⟨a,c,rfl,hl,h0⟩:=cells_of h .nilIface
 refine ⟨a,c,by rw [List.length_map],by rw [List.length_map];exact hl.2,?_⟩
 rcases h0 with h0|⟨b,rfl,hb,hc⟩
 · exact .inl (by rw [List.length_eq_zero_iff.mp h0];rfl)
 · refine .inr ⟨b,0,rfl,hb,fun i hi=> ?_⟩
   rw [List.length_map] at hi
   refine ⟨_,by rw [Nat.zero_add];exact hc i hi,?_⟩
   have hm:=List.getElem_mem hi
   have e1:(rs.map (·.1)).getD i .nilIface=rs[i].1:=by simp [List.getD_eq_getElem?_getD,List.getElem?_map,List.getElem?_eq_getElem hi]
   have e2:(rs.map (·.2)).getD i []=rs[i].2:=by simp [List.getD_eq_getElem?_getD,List.getElem?_map,List.getElem?_eq_getElem hi]
   rw [e1,e2]
   exact strs_of (hr _ hm) (h8 _ hm)
def StayL (W W':World):Prop:=∀ (k:Nat) (c:Array Value) (T:TypeId),W.heap[k]? =some (.cells c T (0,0))→(T=9∨T=43)→W'.heap[k]? =W.heap[k]?
def ImgO (W:World) (v:Value) (l:List (List ByteArray)):Prop:=∃ (B:Nat) (rs:List (Value × List ByteArray)),rs.map (·.2)=l∧rs.length≤1000∧W.ownsRow B 43 1 v rs.length (rs.map (·.1))∧(∀ x ∈ rs,RowAt W x.1 x.2)∧∀ x ∈ rs,x.2.length≤9223372036854775807
theorem ImgO.stay {W W':World} {v:Value} {l:List (List ByteArray)} (h:ImgO W v l) (hs:StayL W W'):ImgO W' v l:=by
 obtain ⟨B,rs,h1,h2,h3,h4,h5⟩:=h
 exact ⟨B,rs,h1,h2,ownsRow_same h3 (fun g hg=> by obtain ⟨_,_,cur,hc⟩:=ownBlock_lt h3 hg;exact hs g cur _ hc (.inr rfl)),fun x hx=> rowAt_same (h4 x hx) (fun g cur hg=> hs g cur _ hg (.inl rfl)),h5⟩
theorem ImgO.below {W W':World} {v:Value} {l:List (List ByteArray)} (h:ImgO W v l) (hb:Below W.heap.size W W'):ImgO W' v l:=h.stay fun k c T hc _=> hb.block k (Array.getElem?_eq_some_iff.1 hc).1
theorem ImgO.at {W:World} {v:Value} {l:List (List ByteArray)} (h:ImgO W v l):ImgsAt W v l:=by
 obtain ⟨B,rs,rfl,h2,h3,h4,h5⟩:=h
 exact imgs_of rfl h2 h3 h4 h5
theorem imgO_of {W:World} {B:Nat} {lv:Value} {rs:List (Value × List ByteArray)} {n:Nat} (hn:rs.length=n) (hn4:n≤1000) (h:W.ownsRow B 43 1 lv n (rs.map (·.1))) (hr:∀ x ∈ rs,RowAt W x.1 x.2) (h8:∀ x ∈ rs,x.2.length≤9223372036854775807):ImgO W lv (rs.map (·.2)):=by
 subst hn
 exact ⟨B,rs,rfl,hn4,h,hr,h8⟩
theorem round_told {s:ByteArray} {k p n p2 pr:Nat} {e2:Option Nat} {accR:List (List ByteArray)} {acc:List ByteArray} (hgo:RowGo s k accR p n p2 e2) (htr:RowTold s n n acc p2 pr e2):Told s k (accR ++ [acc]) pr e2:=by
 match e2,hgo,htr with
 |some c,hgo,_=> exact hgo.2
 |none,⟨hp,h2,hn,h8,ht⟩,htr=>
  subst h2 hn
  have h0:Ld.strs s[p].toNat (s.data.toList.drop (p + 1))=Ld.pre acc (Ld.strs 0 (s.data.toList.drop pr)):=by
   have:Ld.strs s[p].toNat (s.data.toList.drop (p + 1))=Ld.pre acc (Ld.strs (s[p].toNat - s[p].toNat) (s.data.toList.drop pr)):=htr
   rw [Nat.sub_self] at this
   exact this
  exact Ld.rows_next ht hp (by omega) (Ld.strs_end h0)
theorem round_bad {s:ByteArray} {k p n p2 pr c:Nat} {accR:List (List ByteArray)} {acc:List ByteArray} (hgo:RowGo s k accR p n p2 none) (hx:Ld.strs n (s.data.toList.drop p2)=.error c):Told s k (accR ++ [acc]) pr (some c):=by
 obtain ⟨hp,h2,hn,h8,ht⟩:=hgo
 subst h2 hn
 exact Ld.rows_bad ht hp (by omega) hx
theorem cl_append {b B:Nat} {s:ByteArray} {p:Nat} {W W':World} {rv x:Value} {n:Nat} {xs:List Value} (h:Cl b s p none W) (hB:b + 2<B) (hBW:B≤W.heap.size) (hown:W.ownsRow B 9 1 rv n xs) (hg:(W.alloc (.cells #[x] 9)).grownBy W' rv.ownBlock):Cl b s p none W'∧Below B W W':=by
 have hst:∀ k:Nat,k<B→W'.heap[k]? =W.heap[k]? :=by
  intro k hk
  rw [hg.block k (by simp;omega) (by
   intro hh
   obtain ⟨hge,_⟩:=ownBlock_lt hown hh.symm
   omega),Lib.alloc_old W _ k (by omega)]
 obtain ⟨h0,⟨v,h1,hv⟩,h2⟩:=h
 refine ⟨⟨?_,⟨v,?_,hv⟩,?_⟩,hg.os,hg.tape,hg.output,?_,hst⟩
 · rw [hst b (by omega)];exact h0
 · rw [hst (b + 1) (by omega)];exact h1
 · rw [hst (b + 2) (by omega)];exact h2
 · have:=hg.size
   simp at this
   omega
theorem own_kept {b B:Nat} {W W':World} {v:Value} {n:Nat} {xs:List Value} {T:TypeId} (hB:b + 2<B) (hk:Kept b W.heap.size W W') (h:W.ownsRow B T 1 v n xs):W'.ownsRow B T 1 v n xs:=
 ownsRow_same h (fun g hg=> by
  obtain ⟨hge,hl,_⟩:=ownBlock_lt h hg
  exact hk.block g hl (by omega) (by omega))
theorem inner_next {b B:Nat} {s:ByteArray} {n p2 j pr:Nat} {W0 Wr W3 W':World} {rv jv rv':Value} {acc:List ByteArray} {q:Int} (h:InnerAt b B s n p2 W0 rv jv Wr j pr none acc) (hB:b + 2<B) (hBW:B≤Wr.heap.size) (hjt:j<n) (hp:pr<s.size) (h64:s[pr].toNat≤64) (hshort:¬ s.size - (pr + 1)<s[pr].toNat)
 (hk3:Kept b Wr.heap.size Wr W3) (hc':Cl b s (pr + 1) none W') (hb':Below B W3 W') (ho:W'.ownsRow B 9 1 rv' (j + 1) (acc.map Value.string ++ [.string (s.extract (pr + 1) (pr + 1 + s[pr].toNat))])) (hq:q=((pr + 1 + s[pr].toNat:Nat):Int)):
 Inner b B s n p2 none W0 rv' (.int .i64 ((j:Int) + 1)) (W'.setCell ⟨b + 2,0,none⟩ (.int .i64 q)):=by
 subst hq
 obtain ⟨h1,h2,h3,h4,h5,h6,h7,h8,h9⟩:=h
 obtain ⟨hcl,hkk⟩:=cl_next (e:=none) hc' (pr + 1 + s[pr].toNat)
 have hsz:=hb'.size
 have hsz3:=hk3.size
 refine ⟨j + 1,pr + 1 + s[pr].toNat,acc ++ [s.extract (pr + 1) (pr + 1 + s[pr].toNat)],by omega,by go_num,by simp [h3],by omega,hcl,?_,?_,?_,?_⟩
 · exact ((h6.trans (hk3.mono (by omega))).trans (Kept.of hb')).trans (hkk.mono (by omega))
 · rw [List.map_append]
   exact own_kept hB hkk ho
 · intro x hx
   rcases List.mem_append.mp hx with hx|hx
   · exact h8 x hx
   · obtain rfl:x=s.extract (pr + 1) (pr + 1 + s[pr].toNat):=by simpa using hx
     rw [ByteArray.size_extract]
     omega
 · have h9':Ld.strs n (s.data.toList.drop p2)=Ld.pre acc (Ld.strs (n - (j + 1) + 1) (s.data.toList.drop pr)):=by rw [show n - (j + 1) + 1=n - j by omega];exact h9
   exact Ld.strs_next h9' hp (by omega) hshort
def Post (w:World) (s:ByteArray) (ev:Ending) (w':World):Prop:=
 ∃ lv errv,ev=.returned (.tuple #[lv,errv])∧Below w.heap.size w w'∧
   ((∃ c,Ld.unpack s.data.toList=.error c∧ErrV w' (some c) errv∧∃ a n k,lv=.slice a n k)∨∃ l,Ld.unpack s.data.toList=.ok (Ld.of l)∧errv=.nilIface∧ImgO w' lv l)
theorem infoStr:(Tryz.prog.info? 9).map (fun i=> (i.zero,i.size,i.bytes))=some (some (.string ByteArray.empty),1,16):=by kernel_rfl
theorem infoStrs:(Tryz.prog.info? 43).map (fun i=> (i.zero,i.size,i.bytes))=some (some (.slice none 0 0),1,24):=by kernel_rfl
theorem cl_start (w:World) (s:ByteArray):Cl w.heap.size s 0 none (((w.alloc (.cells #[.string s] 9)).alloc (.cells #[.nilIface] 80)).alloc (.cells #[.int .i64 0] 3)):=by
 refine ⟨heap_old (heap_old (heap_new _ _)),⟨_,heap_old (by have:=heap_new (w.alloc (.cells #[.string s] 9)) (.cells #[.nilIface] 80);simpa using this),rfl⟩,?_⟩
 have:=heap_new ((w.alloc (.cells #[.string s] 9)).alloc (.cells #[.nilIface] 80)) (.cells #[.int .i64 0] 3)
 simpa using this
theorem unpack (s:ByteArray) (w:World) (hs:s.size≤140737488355328):Calls Tryz.prog 29 #[.string s] w (Post w s):=by
 have H0:=hU (cl_start w s)
 go_enter Tryz.func29,Tryz.ntmps29
 repeat' (first|go_values|go_skip|go_guarded|(with_reducible refine wg ?_)|go_step|go_upon)
 refine (num_first w.heap.size s _ H0.out hs).mono ?_
 rintro ev w1 ⟨N,p,e,rfl,hN4,hps,hcl,hk1,htold⟩
 have hb1:Below w.heap.size w w1:=Below.trans bel (hk1.below (by simp;omega))
 have hz1:w.heap.size + 2<w1.heap.size:=by have:=hk1.size;simp at this;omega
 have HO:=hU (show OuterAt w s N (.slice none 0 0) (.int .i64 0) w1 0 p e [] from ⟨Nat.zero_le _,rfl,rfl,hps,hcl,hb1,hz1,World.ownsRow_nil _ _ _ _,(fun _ x hx=> by cases hx),htold⟩)
 clear hcl hk1 htold H0
 dsimp only
 repeat' (first|go_values|go_skip|go_guarded|(with_reducible refine wg ?_)|go_step|go_upon)
 go_loopw [7,13] (fun lv iv wr=> Outer w s N lv iv wr) (fun _ iv _=> N - (intOf iv).toNat)
 case atStart=> exact ⟨0,p,e,[],HO.out⟩
 case round=>
  clear HO hb1 hz1
  obtain ⟨i,p,e,rs,hrel⟩:=hrel
  have HR:=hU hrel
  obtain ⟨la,lc,rfl⟩:=ownsRow_slice hrel.2.2.2.2.2.2.2.1
  obtain ⟨hi,rfl,hrsl,hps,hcl,hbel,hz,hown,hrows,htold⟩:=hrel
  have HCL:=hU hcl
  have HOWN:=hU hown
  have HROWS:=hU hrows
  have HTOLD:=hU htold
  clear hcl hown hrows htold hrsl
  by_cases hlt:i<N
  · repeat' (first|go_values|go_skip|go_guarded|(with_reducible refine wg ?_)|go_step|go_upon)
    refine (num_row w.heap.size s (N - i - 1) (rs.map (·.2)) p e _ HCL.out hs hps (by rw [show N - i - 1 + 1=N - i by omega];exact HTOLD.out)).mono ?_
    rintro ev w2 ⟨n,p2,e2,rfl,hn8,hps2,he2,hcl2,hk2,hgo⟩
    dsimp only
    repeat' (first|go_values|go_skip|go_guarded|(with_reducible refine wg ?_)|go_step|go_upon)
    have hbw:w.heap.size + 2<w2.heap.size:=by have:=hk2.size;omega
    have HI:Hid (∃ acc,InnerAt w.heap.size w2.heap.size s n p2 w2 (.slice none 0 0) (.int .i64 0) w2 0 p2 e2 acc):=hU ⟨[],Nat.zero_le _,rfl,rfl,hps2,hcl2,Kept.refl _ _ _,World.ownsRow_nil _ _ _ _,(fun x hx=> by cases hx),by
     match e2,hgo with
     |none,_=> exact (Ld.pre_nil _).symm
     |some c,hgo=> exact hgo.1⟩
    have HGO:=hU hgo
    have HK2:=hU hk2
    have HCL2:=hU hcl2
    have HE2:=hU he2
    clear hgo hk2 hcl2 he2
    obtain ⟨wo,rfl⟩:∃ wo:World,wo=w2:=⟨_,rfl⟩
    go_loopw [8,17] (fun rv jv wr=> Inner w.heap.size wo.heap.size s n p2 e2 wo rv jv wr) (fun _ jv _=> n - (intOf jv).toNat)
    case atStart=>
     obtain ⟨acc,h⟩:=HI.out
     exact ⟨0,p2,acc,h⟩
    case round=>
     clear HI
     obtain ⟨j,pr,acc,hrel⟩:=hrel
     have HJ:=hU hrel
     obtain ⟨ra,rc,rfl⟩:=ownsRow_slice hrel.2.2.2.2.2.2.1
     obtain ⟨hj,rfl,hal,hpr,hclr,hkr,hownr,h64,htr⟩:=hrel
     have HCLR:=hU hclr
     have HOR:=hU hownr
     have HTR:=hU htr
     have HKR:=hU hkr
     have HLR:=hU (list_kept HCL2.out hkr (Nat.le_refl _) (list_kept HCL.out HK2.out (Nat.le_refl _) HOWN.out))
     clear hal hclr hkr hownr h64 htr
     by_cases hjt:j<n
     · obtain rfl:e2=none:=by
        cases e2 with
        |none=> rfl
        |some c=> have:=HGO.out.1;omega
       rcases num_str w.heap.size s (n - j - 1) acc pr wr (Ld.strs n (s.data.toList.drop p2)) HCLR.out hs hpr (by rw [show n - j - 1 + 1=n - j by omega];exact HTR.out) with ⟨c,hX,hcall⟩|⟨hp,h64,hcall⟩
       · have HX:=hU hX
         clear hX
         repeat' (first|go_values|go_skip|go_guarded|(with_reducible refine wg ?_)|go_step|go_upon)
         refine hcall.mono ?_
         rintro ev w3 ⟨rfl,hcl3,hk3⟩
         have HC3:=hU hcl3
         have HK3:=hU hk3
         obtain ⟨_,⟨v3,he3,q3,x3,rfl,_⟩,_⟩:=hcl3
         have c1:w3.cell? ⟨w.heap.size + 1,0,none⟩=some (.iface 148 (.agg #[.int .i64 q3,.iface 108 (.pointer (some ⟨x3,0,none⟩))])):=heap_cell he3 0
         clear he3 hk3
         dsimp only
         obtain ⟨g,cap,W',hrun,ho',hg',hgg,hgl⟩:=append_one (P:=Tryz.prog) (ty:=28) Tryz.underlying28 infoStrs rfl (W:=w3) (x:=.slice ra j rc) (list_kept HCLR.out HK3.out (Nat.le_refl _) HLR.out) rfl (by omega) (by omega) (by have:=HKR.out.size;have:=HK3.out.size;omega)
         have HGR:=hU hg'
         have HO2:=hU ho'
         have HRUN:=hU hrun
         clear hg' ho' hrun
         repeat' (first|(at_builtin;refine wpList_append_run _ rfl _ _ _ _ rfl _ _ rfl rfl _ _ HRUN.out ?_)|go_values|go_skip|go_guarded|(with_reducible refine wg ?_)|go_step|go_upon)
         have hsz0:=HKR.out.size
         exact ⟨outer_next (r:=acc) HR.out hlt HK2.out ⟨_,_,HCL2.out⟩ (HKR.out.trans (HK3.out.mono hsz0)) HC3.out hpr (fun he=> by cases he) (round_bad HGO.out HX.out) HO2.out HGR.out,by simp [intOf];omega⟩
       · have hx255:(s[pr].toNat:Int)≤64:=by omega
         repeat' (first|go_values|go_skip|go_guarded|(with_reducible refine wg ?_)|go_step|go_upon)
         refine hcall.mono ?_
         rintro ev w3 ⟨rfl,hcl3,hk3⟩
         have HC3:=hU hcl3
         have HK3:=hU hk3
         obtain ⟨h30,⟨v3,h31,rfl⟩,h32⟩:=hcl3
         have c1:w3.cell? ⟨w.heap.size + 1,0,none⟩=some .nilIface:=heap_cell h31 0
         have c0:w3.cell? ⟨w.heap.size,0,none⟩=some (.string s):=heap_cell h30 0
         have c2:w3.cell? ⟨w.heap.size + 1 + 1,0,none⟩=some (.int .i64 ((pr + 1:Nat):Int)):=heap_cell h32 0
         have f1:w3.frozen? ⟨w.heap.size + 1,0,none⟩=false:=Lib.frozen_of_heap h31 0
         have hl3:w.heap.size + 1 + 1<w3.heap.size:=heap_lt h32
         have hl3':w.heap.size + 1<w3.heap.size:=by omega
         have hl3'':w.heap.size<w3.heap.size:=by omega
         clear h30 h31 h32 hk3
         dsimp only
         by_cases hshort:s.size - (pr + 1)<s[pr].toNat
         · have hsI:((s.size:Int) - ((pr + 1:Nat):Int))<(s[pr].toNat:Int):=by omega
           obtain ⟨hc4,hk4⟩:=cl_fail HC3.out 2 ((pr:Int) + 1) 2 rfl
           have HC4:=hU hc4
           have HK4:=hU hk4
           have HSH:=hU (Ld.strs_short (k:=n - j - 1) (X:=Ld.strs n (s.data.toList.drop p2)) (by rw [show n - j - 1 + 1=n - j by omega];exact HTR.out) hp (by omega) hshort)
           clear hc4 hk4
           obtain ⟨g,cap,W',hrun,ho',hg',hgg,hgl⟩:=append_one (P:=Tryz.prog) (ty:=28) Tryz.underlying28 infoStrs rfl (W:=((w3.setCell ⟨w.heap.size + 1,0,none⟩ (.iface 148 (.agg #[.int .i64 ((pr:Int) + 1),.iface 108 (.pointer (some ⟨w3.heap.size,0,none⟩))]))).alloc (.cells #[.int .i64 2] 112))) (x:=.slice ra j rc) (list_kept HC3.out HK4.out (Nat.le_refl _) (list_kept HCLR.out HK3.out (Nat.le_refl _) HLR.out)) rfl (by omega) (by omega) (by have:=HKR.out.size;have:=HK3.out.size;have:=HK4.out.size;omega)
           have hsz4:((w3.setCell ⟨w.heap.size + 1,0,none⟩ (.iface 148 (.agg #[.int .i64 ((pr:Int) + 1),.iface 108 (.pointer (some ⟨w3.heap.size,0,none⟩))]))).alloc (.cells #[.int .i64 2] 112)).heap.size=w3.heap.size + 1:=by simp
           rw [hsz4] at hrun
           have HGR:=hU hg'
           have HO2:=hU ho'
           have HRUN:=hU hrun
           clear hg' ho' hrun
           repeat' (first|(at_builtin;refine wpList_append_run _ rfl _ _ _ _ rfl _ _ rfl rfl _ _ HRUN.out ?_)|go_values|go_skip|go_guarded|(with_reducible refine wg ?_)|go_step|go_upon|go_quiet (fail))
           have hsz0:=HKR.out.size
           have hsz1:=HK3.out.size
           exact ⟨outer_next (r:=acc) HR.out hlt HK2.out ⟨_,_,HCL2.out⟩ ((HKR.out.trans (HK3.out.mono hsz0)).trans (HK4.out.mono (by omega))) HC4.out (by omega) (fun he=> by cases he) (round_bad HGO.out HSH.out) HO2.out HGR.out,by simp [intOf];omega⟩
         · have hsI:¬ ((s.size:Int) - ((pr + 1:Nat):Int))<(s[pr].toNat:Int):=by omega
           have HOW3:=hU (own_kept hbw HK3.out HOR.out)
           obtain ⟨g,cap,W',hrun,ho',hg',hgg,hgl⟩:=append_one (P:=Tryz.prog) (ty:=43) Tryz.underlying43 infoStr rfl (W:=w3) (x:=.string (s.extract (pr + 1) (pr + 1 + s[pr].toNat))) HOW3.out rfl (by omega) (by omega) (by have:=HKR.out.size;have:=HK3.out.size;omega)
           obtain ⟨hc4,hb4⟩:=cl_append HC3.out hbw (by have:=HKR.out.size;have:=HK3.out.size;omega) HOW3.out hg'
           have HC4:=hU hc4
           have HB4:=hU hb4
           have HO2:=hU ho'
           have HRUN:=hU hrun
           obtain ⟨h40,⟨v4,h41,rfl⟩,h42⟩:=hc4
           have d1:W'.cell? ⟨w.heap.size + 1,0,none⟩=some .nilIface:=heap_cell h41 0
           have d0:W'.cell? ⟨w.heap.size,0,none⟩=some (.string s):=heap_cell h40 0
           have d2:W'.cell? ⟨w.heap.size + 1 + 1,0,none⟩=some (.int .i64 ((pr + 1:Nat):Int)):=heap_cell h42 0
           have g2:W'.frozen? ⟨w.heap.size + 1 + 1,0,none⟩=false:=Lib.frozen_of_heap h42 0
           clear hg' ho' hrun hb4 h40 h41 h42
           repeat' (first|(at_builtin;refine wpList_append_run _ rfl _ _ _ _ rfl _ _ rfl rfl _ _ HRUN.out ?_)|go_values|go_skip|go_guarded|(with_reducible refine wg ?_)|go_step|go_upon|go_quiet (fail))
           have hsz0:=HKR.out.size
           exact ⟨inner_next HJ.out hbw hsz0 hjt hp h64 hshort HK3.out HC4.out HB4.out HO2.out (by omega),by simp [intOf];omega⟩
     · obtain rfl:j=n:=by omega
       obtain ⟨g,cap,W',hrun,ho',hg',hgg,hgl⟩:=append_one (P:=Tryz.prog) (ty:=28) Tryz.underlying28 infoStrs rfl (W:=wr) (x:=.slice ra j rc) (HLR.out) rfl (by omega) (by omega) (by have:=HKR.out.size;omega)
       have HGR:=hU hg'
       have HO2:=hU ho'
       have HRUN:=hU hrun
       clear hg' ho' hrun
       repeat' (first|(at_builtin;refine wpList_append_run _ rfl _ _ _ _ rfl _ _ rfl rfl _ _ HRUN.out ?_)|go_values|go_skip|go_guarded|(with_reducible refine wg ?_)|go_step|go_upon)
       exact ⟨outer_next HR.out hlt HK2.out ⟨_,_,HCL2.out⟩ HKR.out HCLR.out hpr (fun he=> ⟨HE2.out he,by rw [HJ.out.2.2.1];exact HOR.out,HJ.out.2.2.2.2.2.2.2.1⟩) (round_told HGO.out HTR.out) HO2.out HGR.out,by simp [intOf];omega⟩
  · obtain rfl:i=N:=by omega
    have hsub:i - i=0:=by omega
    match e,HR,HCL,HROWS,HTOLD with
    |some c,HR,HCL,_,HTOLD=>
     obtain ⟨h0,⟨v1,h1,q1,x1,rfl,hx1⟩,h2⟩:=HCL.out
     have c1:wr.cell? ⟨w.heap.size + 1,0,none⟩=some (.iface 148 (.agg #[.int .i64 q1,.iface 108 (.pointer (some ⟨x1,0,none⟩))])):=heap_cell h1 0
     have HX1:=hU hx1
     clear h0 h1 h2 hx1
     repeat' (first|go_values|go_skip|go_guarded|(with_reducible refine wg ?_)|go_step|go_upon|go_quiet (fail))
     go_ret2
     exact ⟨_,_,rfl,below_drewN hbel _,.inl ⟨c,HTOLD.out,⟨q1,x1,rfl,HX1.out⟩,_,_,_,rfl⟩⟩
    |none,HR,HCL,HROWS,HTOLD=>
     obtain ⟨h0,⟨v1,h1,rfl⟩,h2⟩:=HCL.out
     have c1:wr.cell? ⟨w.heap.size + 1,0,none⟩=some .nilIface:=heap_cell h1 0
     have c0:wr.cell? ⟨w.heap.size,0,none⟩=some (.string s):=heap_cell h0 0
     have c2:wr.cell? ⟨w.heap.size + 1 + 1,0,none⟩=some (.int .i64 (p:Int)):=heap_cell h2 0
     have f1:wr.frozen? ⟨w.heap.size + 1,0,none⟩=false:=Lib.frozen_of_heap h1 0
     have hl1:w.heap.size + 1<wr.heap.size:=by omega
     clear h0 h1 h2
     by_cases hp:p<s.size
     · have hpI:(p:Int)<s.size:=by omega
       obtain ⟨hc4,hk4⟩:=cl_fail HCL.out 3 (p:Int) 3 rfl
       have HC4:=hU hc4
       have HK4:=hU hk4
       clear hc4 hk4
       repeat' (first|go_values|go_skip|go_guarded|(with_reducible refine wg ?_)|go_step|go_upon|go_quiet (fail))
       go_ret2
       have hT:Ld.unpack s.data.toList=.error 3:=Ld.rows_left (by have:=HTOLD.out;rw [hsub] at this;exact this) hp
       have hnew:=heap_new (wr.setCell ⟨w.heap.size + 1,0,none⟩ (.iface 148 (.agg #[.int .i64 (p:Int),.iface 108 (.pointer (some ⟨wr.heap.size,0,none⟩))]))) (.cells #[.int .i64 3] 112)
       have hsz:(wr.setCell ⟨w.heap.size + 1,0,none⟩ (.iface 148 (.agg #[.int .i64 (p:Int),.iface 108 (.pointer (some ⟨wr.heap.size,0,none⟩))]))).heap.size=wr.heap.size:=by simp [World.setCell]
       rw [hsz] at hnew
       exact ⟨_,_,rfl,below_drewN (hbel.trans (HK4.out.below (by omega))) _,.inl ⟨3,hT,⟨(p:Int),wr.heap.size,rfl,hnew⟩,_,_,_,rfl⟩⟩
     · have hpI:¬ (p:Int)<s.size:=by omega
       repeat' (first|go_values|go_skip|go_guarded|(with_reducible refine wg ?_)|go_step|go_upon|go_quiet (fail))
       go_ret2
       have hT:Ld.unpack s.data.toList=.ok (Ld.of (rs.map (·.2))):=Ld.rows_end (by have:=HTOLD.out;rw [hsub] at this;exact this) (by omega)
       have hfit:=(Ld.fits_iff _).1 (Ld.unpack_ok hT).1
       have hI:ImgO wr (.slice la i lc) (rs.map (·.2)):=imgO_of HR.out.2.2.1 (by omega) HOWN.out (HROWS.out rfl) (fun x hx=> by
        have:=((Ld.okRow_iff _).1 (hfit.2 x.2 (List.mem_map.mpr ⟨x,hx,rfl⟩))).1
        rw [Ld.row,List.length_map] at this
        omega)
       exact ⟨_,_,rfl,below_drewN hbel _,.inr ⟨rs.map (·.2),hT,rfl,hI.below (below_drewN (Below.refl _ _) _)⟩⟩
end Unp
end Go.Proofs.YthgehdghihbiaaaGreatDoor
