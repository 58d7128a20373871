/- plan.Take's beginning: strings.CutPrefix; how what the call has made stays while it reads on. Condition: bytes are as many as a string can have. plan.Take: what the call has made, and how it stays while it reads on. No condition. plan.Take: the plan of bytes, or why there is none. Conditions: errors.errorType is the handle of 'error'; bytes are as many as a string can have. -/
import Derived.Test.YthgehdghihbiaaaGreatDoorGPlR
import Derived.Laws.ResultCell
set_option linter.unusedVariables false
set_option maxRecDepth 100000
set_option maxHeartbeats 8000000
set_option linter.unusedSimpArgs false
namespace Go.Proofs.YthgehdghihbiaaaGreatDoor
open Go.RowKit
namespace Tk
theorem tp_toList (s:ByteArray) (h:2≤s.size):((s.extract 0 2).toList==([84,80]:List UInt8))=decide (s.data.toList.take 2=[84,80]):=by
 rw [ByteArray.toList_eq,ByteArray.data_extract,Array.toList_extract,List.extract_eq_take_drop,List.drop_zero,Bool.eq_iff_iff,beq_iff_eq,decide_eq_true_eq]
theorem cut_yes (s:ByteArray) (w:World) (hs:s.size≤140737488355328) (h:s.data.toList.take 2=[84,80]):Calls Tryz.prog 24 #[.string s,.string ⟨#[84,80]⟩] w (Is (.tuple #[.string (s.extract 2 s.size),.bool true]) w):=by
 have h2:2≤s.size:=by
  have:=congrArg List.length h
  rw [List.length_take,Array.length_toList] at this
  simp at this
  omega
 have hq:=tp_toList s h2
 rw [decide_eq_true h] at hq
 have h2I:(2:Int)≤s.size:=by omega
 clear h
 go_enter Tryz.func24,Tryz.ntmps24
 go_wp2
 all_goals go_ret2
 all_goals exact is_of rfl
theorem cut_no (s:ByteArray) (w:World) (hs:s.size≤140737488355328) (h:¬ s.data.toList.take 2=[84,80]):Calls Tryz.prog 24 #[.string s,.string ⟨#[84,80]⟩] w (Is (.tuple #[.string s,.bool false]) w):=by
 by_cases h2:2≤s.size
 · have hq:=tp_toList s h2
   rw [decide_eq_false h] at hq
   have h2I:(2:Int)≤s.size:=by omega
   clear h
   go_enter Tryz.func24,Tryz.ntmps24
   go_wp2
   all_goals go_ret2
   all_goals exact is_of rfl
 · have h2I:¬ (2:Int)≤s.size:=by omega
   go_enter Tryz.func24,Tryz.ntmps24
   go_wp2
   all_goals go_ret2
   all_goals exact is_of rfl
end Tk
end Go.Proofs.YthgehdghihbiaaaGreatDoor
namespace Go.Proofs.YthgehdghihbiaaaGreatDoor
open Go.RowKit
namespace Tk
open Rdr
def OwnI (W:World) (B:Nat) (T:TypeId) (sz:Nat) (v:Value) (l:List (List Int)):Prop:=W.ownsRow B T sz v l.length (l.flatMap intCells)∧∀ r ∈ l,r.length=sz
theorem own_nil (W:World) (B:Nat) (T:TypeId) (sz:Nat):OwnI W B T sz (.slice none 0 0) []:=⟨World.ownsRow_nil _ _ _ _,fun r hr=> by cases hr⟩
theorem own_stay {W W':World} {B sz:Nat} {T:TypeId} {v:Value} {l:List (List Int)} (h:OwnI W B T sz v l) (hs:∀ (k:Nat) (c:Array Value),W.heap[k]? =some (.cells c T (0,0))→W'.heap[k]? =W.heap[k]?):OwnI W' B T sz v l:=
 ⟨ownsRow_same h.1 (fun g hg=> by obtain ⟨_,_,cur,hc⟩:=ownBlock_lt h.1 hg;exact hs g cur hc),h.2⟩
theorem ne_of_types {W:World} {g k:Nat} {c c':Array Value} {T T':TypeId} (h:W.heap[g]? =some (.cells c T (0,0))) (h':W.heap[k]? =some (.cells c' T' (0,0))) (hT:T ≠ T'):g ≠ k:=by
 rintro rfl
 rw [h] at h'
 simp only [Option.some.injEq,Obj.cells.injEq] at h'
 exact hT h'.2.1
abbrev Res (w W:World):Prop:=W.heap[w.heap.size]? =some (.cells #[.slice none 0 0,.int .i64 0,.slice none 0 0,.slice none 0 0] 27 (0,0))
abbrev Pln (w:World) (v1:Value) (fr:Int) (v3 v4:Value) (W:World):Prop:=W.heap[w.heap.size + 1 + 1]? =some (.cells #[v1,.int .i64 fr,v3,v4] 27 (0,0))
structure Full (w:World) (st:Pl.St) (v1 v3 v4:Value) (ps:List (List Int)) (fr:Int) (rs:List (Value × List (List Int))) (cs:List (List Int)) (W:World):Prop where
 rd:Rd (w.heap.size + 1) st W
 res:Res w W
 pln:Pln w v1 fr v3 v4 W
 bel:Below w.heap.size w W
 parts:OwnI W w.heap.size 96 4 v1 ps
 wins:W.ownsRow w.heap.size 97 1 v3 rs.length (rs.map (·.1))
 rows:∀ x ∈ rs,∃ B,OwnI W B 99 3 x.1 x.2
 chans:OwnI W w.heap.size 101 5 v4 cs
structure KU (b B:Nat) (W W':World):Prop where
 os:W'.os=W.os
 tape:W'.tape=W.tape
 output:W'.output=W.output
 size:W.heap.size≤W'.heap.size
 block:∀ k,k<B→k ≠ b→W'.heap[k]? =W.heap[k]?
theorem KU.refl (b B:Nat) (W:World):KU b B W W:=⟨rfl,rfl,rfl,Nat.le_refl _,fun _ _ _=> rfl⟩
theorem KU.trans {b B:Nat} {W W1 W2:World} (h:KU b B W W1) (k:KU b B W1 W2):KU b B W W2:=
 ⟨k.os.trans h.os,k.tape.trans h.tape,k.output.trans h.output,Nat.le_trans h.size k.size,fun i h1 h2=> (k.block i h1 h2).trans (h.block i h1 h2)⟩
theorem KU.of {b B:Nat} {W W':World} (h:Rdr.Kept b W W') (hB:B≤W.heap.size):KU b B W W':=⟨h.os,h.tape,h.output,h.size,fun i h1 h2=> h.block i (by omega) h2⟩
theorem KU.alloc {b B:Nat} {W0 W:World} (h:KU b B W0 W) (hB:B≤W.heap.size) (o:Obj):KU b B W0 (W.alloc o):=h.trans ⟨rfl,rfl,rfl,by simp,fun i h1 _=> Lib.alloc_old W o i (by omega)⟩
theorem KU.set {b B:Nat} {W0 W:World} (h:KU b B W0 W) {k:Nat} (hB:B≤k) (j:Nat) (v:Value):KU b B W0 (W.setCell ⟨k,j,none⟩ v):=h.trans ⟨rfl,rfl,rfl,by simp [World.setCell],fun i h1 _=> heap_set_ne (by omega)⟩
theorem rd_set {b k j:Nat} {st:Pl.St} {W:World} {v:Value} {c:Array Value} {T:TypeId} (h:Rd b st W) (hk:W.heap[k]? =some (.cells c T (0,0))) (h1:T ≠ 91) (h2:T ≠ 131):Rd b st (W.setCell ⟨k,j,none⟩ v):=by
 have hb:∃ c,W.heap[b]? =some (.cells c 91 (0,0)):=by obtain ⟨s,v,_,h0,_⟩:=h;exact ⟨_,h0⟩
 obtain ⟨cb,hb⟩:=hb
 refine h.same (fun i hi=> heap_set_ne ?_)
 rcases hi with rfl|⟨c',hi⟩
 · exact (ne_of_types hk hb h1).symm
 · exact (ne_of_types hk hi h2).symm
theorem full_keep {w W W':World} {st st':Pl.St} {v1 v3 v4:Value} {ps cs:List (List Int)} {fr:Int} {rs:List (Value × List (List Int))} (h:Full w st v1 v3 v4 ps fr rs cs W) (hk:KU (w.heap.size + 1) W.heap.size W W') (hr:Rd (w.heap.size + 1) st' W'):Full w st' v1 v3 v4 ps fr rs cs W':=by
 have hb:∃ c,W.heap[w.heap.size + 1]? =some (.cells c 91 (0,0)):=by obtain ⟨s,v,_,h0,_⟩:=h.rd;exact ⟨_,h0⟩
 obtain ⟨cb,hb⟩:=hb
 have hst:∀ (k:Nat) (c:Array Value) (T:TypeId),W.heap[k]? =some (.cells c T (0,0))→T ≠ 91→W'.heap[k]? =W.heap[k]? :=fun k c T hc hT=> hk.block k (heap_lt hc) (ne_of_types hc hb hT)
 refine ⟨hr,(hst _ _ _ h.res (by decide)).trans h.res,(hst _ _ _ h.pln (by decide)).trans h.pln,h.bel.trans ⟨hk.os,hk.tape,hk.output,hk.size,fun k hkl=> hk.block k (by have:=h.bel.size;omega) (by omega)⟩,own_stay h.parts (fun k c hc=> hst k c _ hc (by decide)),?_,fun x hx=> ?_,own_stay h.chans (fun k c hc=> hst k c _ hc (by decide))⟩
 · exact ownsRow_same h.wins (fun g hg=> by obtain ⟨_,_,cur,hc⟩:=ownBlock_lt h.wins hg;exact hst g cur _ hc (by decide))
 · obtain ⟨B,hx⟩:=h.rows x hx
   exact ⟨B,own_stay hx (fun k c hc=> hst k c _ hc (by decide))⟩
theorem res_ne (w:World):w.heap.size ≠ w.heap.size + 1 + 1:=by omega
theorem grow_store {w W W':World} {st:Pl.St} {v1 v3 v4:Value} {ps cs:List (List Int)} {fr:Int} {rs:List (Value × List (List Int))} {E:TypeId} {sz n:Nat} {v x:Value} {xs:List Value} {o:Obj} {j:Nat}
 (h:Full w st v1 v3 v4 ps fr rs cs W) (hown:W.ownsRow w.heap.size E sz v n xs) (hg:(W.alloc o).grownBy W' v.ownBlock):
 (∀ (k:Nat) (c:Array Value) (T:TypeId),W.heap[k]? =some (.cells c T (0,0))→T ≠ E→k ≠ w.heap.size + 1 + 1→(W'.setCell ⟨w.heap.size + 1 + 1,j,none⟩ x).heap[k]? =W.heap[k]?)∧
 (∀ (k:Nat) (c:Array Value) (T:TypeId),W.heap[k]? =some (.cells c T (0,0))→T ≠ E→W'.heap[k]? =W.heap[k]?)∧Below w.heap.size w (W'.setCell ⟨w.heap.size + 1 + 1,j,none⟩ x):=by
 have h1:∀ (k:Nat) (c:Array Value) (T:TypeId),W.heap[k]? =some (.cells c T (0,0))→T ≠ E→W'.heap[k]? =W.heap[k]? :=by
  intro k c T hk hT
  have hlt:=heap_lt hk
  rw [hg.block k (by simp;omega) (by
   intro hh
   obtain ⟨_,_,cur,hcur⟩:=ownBlock_lt hown hh.symm
   exact ne_of_types hk hcur hT rfl),Lib.alloc_old W _ k hlt]
 have hgs:=hg.size
 simp at hgs
 have hz:=h.bel.size
 refine ⟨fun k c T hk hT hne=> (heap_set_ne hne).trans (h1 k c T hk hT),h1,h.bel.trans ⟨hg.os,hg.tape,hg.output,by simp [World.setCell];omega,fun k hk=> ?_⟩⟩
 rw [heap_set_ne (by omega),hg.block k (by simp;omega) (by
  intro hh
  obtain ⟨hge,_⟩:=ownBlock_lt hown hh.symm
  omega),Lib.alloc_old W _ k (by omega)]
theorem rd_stay {b:Nat} {st:Pl.St} {W W':World} (h:Rd b st W) (hs:∀ (k:Nat) (c:Array Value) (T:TypeId),W.heap[k]? =some (.cells c T (0,0))→(T=91∨T=131)→W'.heap[k]? =W.heap[k]?):Rd b st W':=by
 have hb:∃ c,W.heap[b]? =some (.cells c 91 (0,0)):=by obtain ⟨s,v,_,h0,_⟩:=h;exact ⟨_,h0⟩
 obtain ⟨cb,hb⟩:=hb
 refine h.same (fun i hi=> ?_)
 rcases hi with rfl|⟨c',hi⟩
 · exact hs _ _ _ hb (.inl rfl)
 · exact hs _ _ _ hi (.inr rfl)
theorem pln_set {w W':World} {v1 v3 v4 x:Value} {fr:Int} (h:Pln w v1 fr v3 v4 W'):
 Pln w x fr v3 v4 (W'.setCell ⟨w.heap.size + 1 + 1,0,none⟩ x)∧Pln w v1 fr x v4 (W'.setCell ⟨w.heap.size + 1 + 1,2,none⟩ x)∧Pln w v1 fr v3 x (W'.setCell ⟨w.heap.size + 1 + 1,3,none⟩ x):=by
 refine ⟨?_,?_,?_⟩ <;> simp [Pln,World.setCell,Array.getElem?_modify,h]
theorem full_part {w W W':World} {st:Pl.St} {v1 v3 v4 x:Value} {ps cs:List (List Int)} {fr:Int} {rs:List (Value × List (List Int))} {r:List Int} {o:Obj} (h:Full w st v1 v3 v4 ps fr rs cs W) (hg:(W.alloc o).grownBy W' v1.ownBlock) (hr:r.length=4)
 (ho:W'.ownsRow w.heap.size 96 4 x (ps.length + 1) (ps.flatMap intCells ++ intCells r)):Full w st x v3 v4 (ps ++ [r]) fr rs cs (W'.setCell ⟨w.heap.size + 1 + 1,0,none⟩ x):=by
 obtain ⟨h1,h2,h3⟩:=grow_store (x:=x) (j:=0) h h.parts.1 hg
 have hp:Pln w v1 fr v3 v4 W':=(h2 _ _ _ h.pln (by decide)).trans h.pln
 have hne:∀ (k:Nat) (c:Array Value) (T:TypeId),W.heap[k]? =some (.cells c T (0,0))→T ≠ 96→T ≠ 27→(W'.setCell ⟨w.heap.size + 1 + 1,0,none⟩ x).heap[k]? =W.heap[k]? :=fun k c T hc hT hP=> h1 k c T hc hT (ne_of_types hc h.pln hP)
 refine ⟨rd_stay h.rd (fun k c T hc hT=> hne k c T hc (by rcases hT with rfl|rfl <;> decide) (by rcases hT with rfl|rfl <;> decide)),(h1 _ _ _ h.res (by decide) (res_ne w)).trans h.res,(pln_set hp).1,h3,⟨?_,?_⟩,?_,fun y hy=> ?_,own_stay h.chans (fun k c hc=> hne k c _ hc (by decide) (by decide))⟩
 · have ho':W'.ownsRow w.heap.size 96 4 x (ps ++ [r]).length ((ps ++ [r]).flatMap intCells):=by simpa using ho
   refine ownsRow_same ho' (fun g hgo=> heap_set_ne ?_)
   obtain ⟨_,_,cur,hc⟩:=ownBlock_lt ho' hgo
   exact ne_of_types hc hp (by decide)
 · intro y hy
   rcases List.mem_append.mp hy with hy|hy
   · exact h.parts.2 y hy
   · obtain rfl:y=r:=by simpa using hy
     exact hr
 · exact ownsRow_same h.wins (fun g hgo=> by obtain ⟨_,_,cur,hc⟩:=ownBlock_lt h.wins hgo;exact hne g cur _ hc (by decide) (by decide))
 · obtain ⟨B,hx⟩:=h.rows y hy
   exact ⟨B,own_stay hx (fun k c hc=> hne k c _ hc (by decide) (by decide))⟩
theorem full_chan {w W W':World} {st:Pl.St} {v1 v3 v4 x:Value} {ps cs:List (List Int)} {fr:Int} {rs:List (Value × List (List Int))} {r:List Int} {o:Obj} (h:Full w st v1 v3 v4 ps fr rs cs W) (hg:(W.alloc o).grownBy W' v4.ownBlock) (hr:r.length=5)
 (ho:W'.ownsRow w.heap.size 101 5 x (cs.length + 1) (cs.flatMap intCells ++ intCells r)):Full w st v1 v3 x ps fr rs (cs ++ [r]) (W'.setCell ⟨w.heap.size + 1 + 1,3,none⟩ x):=by
 obtain ⟨h1,h2,h3⟩:=grow_store (x:=x) (j:=3) h h.chans.1 hg
 have hp:Pln w v1 fr v3 v4 W':=(h2 _ _ _ h.pln (by decide)).trans h.pln
 have hne:∀ (k:Nat) (c:Array Value) (T:TypeId),W.heap[k]? =some (.cells c T (0,0))→T ≠ 101→T ≠ 27→(W'.setCell ⟨w.heap.size + 1 + 1,3,none⟩ x).heap[k]? =W.heap[k]? :=fun k c T hc hT hP=> h1 k c T hc hT (ne_of_types hc h.pln hP)
 refine ⟨rd_stay h.rd (fun k c T hc hT=> hne k c T hc (by rcases hT with rfl|rfl <;> decide) (by rcases hT with rfl|rfl <;> decide)),(h1 _ _ _ h.res (by decide) (res_ne w)).trans h.res,(pln_set hp).2.2,h3,own_stay h.parts (fun k c hc=> hne k c _ hc (by decide) (by decide)),?_,fun y hy=> ?_,?_,?_⟩
 · exact ownsRow_same h.wins (fun g hgo=> by obtain ⟨_,_,cur,hc⟩:=ownBlock_lt h.wins hgo;exact hne g cur _ hc (by decide) (by decide))
 · obtain ⟨B,hx⟩:=h.rows y hy
   exact ⟨B,own_stay hx (fun k c hc=> hne k c _ hc (by decide) (by decide))⟩
 · have ho':W'.ownsRow w.heap.size 101 5 x (cs ++ [r]).length ((cs ++ [r]).flatMap intCells):=by simpa using ho
   refine ownsRow_same ho' (fun g hgo=> heap_set_ne ?_)
   obtain ⟨_,_,cur,hc⟩:=ownBlock_lt ho' hgo
   exact ne_of_types hc hp (by decide)
 · intro y hy
   rcases List.mem_append.mp hy with hy|hy
   · exact h.chans.2 y hy
   · obtain rfl:y=r:=by simpa using hy
     exact hr
theorem full_win {w W W':World} {st:Pl.St} {v1 v3 v4 x u:Value} {ps cs:List (List Int)} {fr:Int} {rs:List (Value × List (List Int))} {l:List (List Int)} {B:Nat} {o:Obj} (h:Full w st v1 v3 v4 ps fr rs cs W) (hg:(W.alloc o).grownBy W' v3.ownBlock) (hr:OwnI W B 99 3 u l)
 (ho:W'.ownsRow w.heap.size 97 1 x (rs.length + 1) (rs.map (·.1) ++ [u])):Full w st v1 x v4 ps fr (rs ++ [(u,l)]) cs (W'.setCell ⟨w.heap.size + 1 + 1,2,none⟩ x):=by
 obtain ⟨h1,h2,h3⟩:=grow_store (x:=x) (j:=2) h h.wins hg
 have hp:Pln w v1 fr v3 v4 W':=(h2 _ _ _ h.pln (by decide)).trans h.pln
 have hne:∀ (k:Nat) (c:Array Value) (T:TypeId),W.heap[k]? =some (.cells c T (0,0))→T ≠ 97→T ≠ 27→(W'.setCell ⟨w.heap.size + 1 + 1,2,none⟩ x).heap[k]? =W.heap[k]? :=fun k c T hc hT hP=> h1 k c T hc hT (ne_of_types hc h.pln hP)
 refine ⟨rd_stay h.rd (fun k c T hc hT=> hne k c T hc (by rcases hT with rfl|rfl <;> decide) (by rcases hT with rfl|rfl <;> decide)),(h1 _ _ _ h.res (by decide) (res_ne w)).trans h.res,(pln_set hp).2.1,h3,own_stay h.parts (fun k c hc=> hne k c _ hc (by decide) (by decide)),?_,fun y hy=> ?_,own_stay h.chans (fun k c hc=> hne k c _ hc (by decide) (by decide))⟩
 · have ho':W'.ownsRow w.heap.size 97 1 x (rs ++ [(u,l)]).length ((rs ++ [(u,l)]).map (·.1)):=by simpa using ho
   refine ownsRow_same ho' (fun g hgo=> heap_set_ne ?_)
   obtain ⟨_,_,cur,hc⟩:=ownBlock_lt ho' hgo
   exact ne_of_types hc hp (by decide)
 · rcases List.mem_append.mp hy with hy|hy
   · obtain ⟨B,hx⟩:=h.rows y hy
     exact ⟨B,own_stay hx (fun k c hc=> hne k c _ hc (by decide) (by decide))⟩
   · obtain rfl:y=(u,l):=by simpa using hy
     exact ⟨B,own_stay hr (fun k c hc=> hne k c _ hc (by decide) (by decide))⟩
theorem full_frame {w W:World} {st:Pl.St} {v1 v3 v4:Value} {ps cs:List (List Int)} {fr fr':Int} {rs:List (Value × List (List Int))} (h:Full w st v1 v3 v4 ps fr rs cs W):Full w st v1 v3 v4 ps fr' rs cs (W.setCell ⟨w.heap.size + 1 + 1,1,none⟩ (.int .i64 fr')):=by
 have hne:∀ (k:Nat) (c:Array Value) (T:TypeId),W.heap[k]? =some (.cells c T (0,0))→T ≠ 27→(W.setCell ⟨w.heap.size + 1 + 1,1,none⟩ (.int .i64 fr')).heap[k]? =W.heap[k]? :=fun k c T hc hP=> heap_set_ne (ne_of_types hc h.pln hP)
 refine ⟨rd_stay h.rd (fun k c T hc hT=> hne k c T hc (by rcases hT with rfl|rfl <;> decide)),(heap_set_ne (res_ne w)).trans h.res,?_,h.bel.trans ⟨rfl,rfl,rfl,by simp [World.setCell],fun k hk=> heap_set_ne (by omega)⟩,own_stay h.parts (fun k c hc=> hne k c _ hc (by decide)),?_,fun y hy=> ?_,own_stay h.chans (fun k c hc=> hne k c _ hc (by decide))⟩
 · have:=h.pln
   simp [Pln,World.setCell,Array.getElem?_modify,this]
 · exact ownsRow_same h.wins (fun g hgo=> by obtain ⟨_,_,cur,hc⟩:=ownBlock_lt h.wins hgo;exact hne g cur _ hc (by decide))
 · obtain ⟨B,hx⟩:=h.rows y hy
   exact ⟨B,own_stay hx (fun k c hc=> hne k c _ hc (by decide))⟩
theorem numS_le (m:Nat) (st:Pl.St):0≤(Pl.numS m st).1∧(Pl.numS m st).1≤m∧(Pl.numS m st).1<65536:=by
 match st with
 | .error c=> exact ⟨Int.le_refl _,Int.natCast_nonneg _,by show (0:Int)<65536;omega⟩
 | .ok l=>
   simp only [Pl.numS]
   match h:Pl.num m l with
   | .error c=> exact ⟨Int.le_refl _,Int.natCast_nonneg _,by show (0:Int)<65536;omega⟩
   | .ok (x,t)=>
     obtain ⟨h1,h2,h3,_⟩:=Pl.num_ok h
     exact ⟨h1,h3,h2⟩
theorem step4 {st st1 st2 st3 st4:Pl.St} {x0 x1 x2 x3:Int} (k:Nat) (h0:Pl.numS 65536 st=(x0,st1)) (h1:Pl.numS 65536 st1=(x1,st2)) (h2:Pl.numS 65536 st2=(x2,st3)) (h3:Pl.numS 65536 st3=(x3,st4)):
 Pl.rowsS 4 (k + 1) st=([x0,x1,x2,x3]::(Pl.rowsS 4 k st4).1,(Pl.rowsS 4 k st4).2):=by simp only [Pl.rowsS,Pl.anysS,h0,h1,h2,h3]
theorem step3 {st st1 st2 st3:Pl.St} {x0 x1 x2:Int} (k:Nat) (h0:Pl.numS 65536 st=(x0,st1)) (h1:Pl.numS 65536 st1=(x1,st2)) (h2:Pl.numS 65536 st2=(x2,st3)):
 Pl.rowsS 3 (k + 1) st=([x0,x1,x2]::(Pl.rowsS 3 k st3).1,(Pl.rowsS 3 k st3).2):=by simp only [Pl.rowsS,Pl.anysS,h0,h1,h2]
theorem step5 {st st1 st2 st3 st4 st5:Pl.St} {x0 x1 x2 x3 x4:Int} (k:Nat) (h0:Pl.numS 65536 st=(x0,st1)) (h1:Pl.numS 65536 st1=(x1,st2)) (h2:Pl.numS 65536 st2=(x2,st3)) (h3:Pl.numS 65536 st3=(x3,st4)) (h4:Pl.numS 65536 st4=(x4,st5)):
 Pl.rowsS 5 (k + 1) st=([x0,x1,x2,x3,x4]::(Pl.rowsS 5 k st5).1,(Pl.rowsS 5 k st5).2):=by simp only [Pl.rowsS,Pl.anysS,h0,h1,h2,h3,h4]
theorem kept_heap {b k:Nat} {W W':World} {o:Obj} (hk:Rdr.Kept b W W') (h:W.heap[k]? =some o) (hne:k ≠ b):W'.heap[k]? =some o:=(hk.block k (heap_lt h) hne).trans h
theorem set_heap {b j:Nat} {W:World} {cs:Array Value} {T:TypeId} {v:Value} (h:W.heap[b]? =some (.cells cs T (0,0))):(W.setCell ⟨b,j,none⟩ v).heap[b]? =some (.cells (cs.setIfInBounds j v) T (0,0)):=by
 simp [World.setCell,Array.getElem?_modify,h]
end Tk
end Go.Proofs.YthgehdghihbiaaaGreatDoor
namespace Go.Proofs.YthgehdghihbiaaaGreatDoor
open Go.RowKit
namespace Tk
theorem infoPart:(Tryz.prog.info? 96).map (fun i=> (i.zero,i.size,i.bytes))=some (some (.agg #[.int .i64 0,.int .i64 0,.int .i64 0,.int .i64 0]),4,32):=by kernel_rfl
theorem infoWin:(Tryz.prog.info? 99).map (fun i=> (i.zero,i.size,i.bytes))=some (some (.agg #[.int .i64 0,.int .i64 0,.int .i64 0]),3,24):=by kernel_rfl
theorem infoWins:(Tryz.prog.info? 97).map (fun i=> (i.zero,i.size,i.bytes))=some (some (.slice none 0 0),1,24):=by kernel_rfl
theorem infoChan:(Tryz.prog.info? 101).map (fun i=> (i.zero,i.size,i.bytes))=some (some (.agg #[.int .i64 0,.int .i64 0,.int .i64 0,.int .i64 0,.int .i64 0]),5,40):=by kernel_rfl
def L1 (w:World) (N:Nat) (st0:Pl.St) (iv:Value) (W:World):Prop:=
 ∃ (i:Nat) (st:Pl.St) (v1:Value) (ps:List (List Int)),i≤N∧iv=.int .i64 (i:Int)∧ps.length=i∧Full w st v1 (.slice none 0 0) (.slice none 0 0) ps 0 [] [] W∧Pl.rowsS 4 N st0=(ps ++ (Pl.rowsS 4 (N - i) st).1,(Pl.rowsS 4 (N - i) st).2)
theorem alloc_size1 (W:World) (o:Obj):(W.alloc o).heap.size=W.heap.size + 1:=by simp
theorem KU.mono {b B B':Nat} {W W':World} (h:KU b B' W W') (hB:B≤B'):KU b B W W':=⟨h.os,h.tape,h.output,h.size,fun k h1 h2=> h.block k (by omega) h2⟩
theorem grow_same {W W':World} {B sz n:Nat} {E:TypeId} {v:Value} {xs:List Value} {o:Obj} (hown:W.ownsRow B E sz v n xs) (hg:(W.alloc o).grownBy W' v.ownBlock) (k:Nat) (c:Array Value) (T:TypeId) (hk:W.heap[k]? =some (.cells c T (0,0))) (hT:T ≠ E):W'.heap[k]? =W.heap[k]? :=by
 have hlt:=Rdr.heap_lt hk
 rw [hg.block k (by simp;omega) (by
  intro hh
  obtain ⟨_,_,cur,hcur⟩:=ownBlock_lt hown hh.symm
  exact ne_of_types hk hcur hT rfl),Lib.alloc_old W _ k hlt]
theorem rd_grow {W W':World} {b B sz n:Nat} {E:TypeId} {v:Value} {xs:List Value} {o:Obj} {st:Pl.St} (h:Rdr.Rd b st W) (hown:W.ownsRow B E sz v n xs) (hg:(W.alloc o).grownBy W' v.ownBlock) (h1:91 ≠ E) (h2:131 ≠ E):Rdr.Rd b st W':=
 rd_stay h (fun k c T hc hT=> grow_same hown hg k c T hc (by rcases hT with rfl|rfl <;> assumption))
theorem KU.grow {W0 W W':World} {b B sz n:Nat} {E:TypeId} {v:Value} {xs:List Value} {o:Obj} (h:KU b B W0 W) (hown:W.ownsRow B E sz v n xs) (hg:(W.alloc o).grownBy W' v.ownBlock) (hB:B≤W.heap.size):KU b B W0 W':=by
 have hgs:=hg.size
 simp at hgs
 refine h.trans ⟨hg.os,hg.tape,hg.output,by omega,fun k h1 h2=> ?_⟩
 rw [hg.block k (by simp;omega) (by
  intro hh
  obtain ⟨hge,_⟩:=ownBlock_lt hown hh.symm
  omega),Lib.alloc_old W _ k (by omega)]
theorem own_ku {W W':World} {b B sz:Nat} {T:TypeId} {v:Value} {l:List (List Int)} {st:Pl.St} (h:OwnI W B T sz v l) (hk:KU b W.heap.size W W') (hr:Rdr.Rd b st W) (hT:T ≠ 91):OwnI W' B T sz v l:=by
 have hb:∃ c,W.heap[b]? =some (.cells c 91 (0,0)):=by obtain ⟨s,v,_,h0,_⟩:=hr;exact ⟨_,h0⟩
 obtain ⟨cb,hb⟩:=hb
 exact own_stay h (fun k c hc=> hk.block k (Rdr.heap_lt hc) (ne_of_types hc hb hT))
theorem own_app {W W':World} {B sz:Nat} {T:TypeId} {v x:Value} {l:List (List Int)} {r:List Int} (h:OwnI W B T sz v l) (hr:r.length=sz) (ho:W'.ownsRow B T sz x (l.length + 1) (l.flatMap intCells ++ intCells r)):OwnI W' B T sz x (l ++ [r]):=by
 refine ⟨by simpa using ho,fun y hy=> ?_⟩
 rcases List.mem_append.mp hy with hy|hy
 · exact h.2 y hy
 · obtain rfl:y=r:=by simpa using hy
   exact hr
theorem stepw {st st1 st2:Pl.St} {K:Nat} {l:List (List Int)} (k:Nat) (h0:Pl.numS 8 st=((K:Int),st1)) (h1:Pl.rowsS 3 K st1=(l,st2)):Pl.winsS (k + 1) st=(l::(Pl.winsS k st2).1,(Pl.winsS k st2).2):=by simp only [Pl.winsS,h0,Int.toNat_natCast,h1]
def L3 (w:World) (v1:Value) (ps:List (List Int)) (fr:Int) (N:Nat) (st0:Pl.St) (iv:Value) (W:World):Prop:=
 ∃ (i:Nat) (st:Pl.St) (v3:Value) (rs:List (Value × List (List Int))),i≤N∧iv=.int .i64 (i:Int)∧rs.length=i∧Full w st v1 v3 (.slice none 0 0) ps fr rs [] W∧Pl.winsS N st0=(rs.map (·.2) ++ (Pl.winsS (N - i) st).1,(Pl.winsS (N - i) st).2)
def L4 (b:Nat) (wo:World) (N:Nat) (st0:Pl.St) (iv av:Value) (W:World):Prop:=
 ∃ (j:Nat) (st:Pl.St) (l:List (List Int)),j≤N∧iv=.int .i64 (j:Int)∧l.length=j∧Rdr.Rd b st W∧KU b wo.heap.size wo W∧OwnI W wo.heap.size 99 3 av l∧Pl.rowsS 3 N st0=(l ++ (Pl.rowsS 3 (N - j) st).1,(Pl.rowsS 3 (N - j) st).2)
def L5 (w:World) (v1:Value) (ps:List (List Int)) (fr:Int) (v3:Value) (rs:List (Value × List (List Int))) (N:Nat) (st0:Pl.St) (iv:Value) (W:World):Prop:=
 ∃ (i:Nat) (st:Pl.St) (v4:Value) (cs:List (List Int)),i≤N∧iv=.int .i64 (i:Int)∧cs.length=i∧Full w st v1 v3 v4 ps fr rs cs W∧Pl.rowsS 5 N st0=(cs ++ (Pl.rowsS 5 (N - i) st).1,(Pl.rowsS 5 (N - i) st).2)
theorem full_start (w:World) (rest:ByteArray) (h:rest.size≤140737488355328):Full w (.ok rest.data.toList) (.slice none 0 0) (.slice none 0 0) (.slice none 0 0) [] 0 [] [] (((w.alloc (.cells #[.slice none 0 0,.int .i64 0,.slice none 0 0,.slice none 0 0] 27)).alloc (.cells #[.string rest,.nilIface] 91)).alloc (.cells #[.slice none 0 0,.int .i64 0,.slice none 0 0,.slice none 0 0] 27)):=by
 have h1:=Rdr.heap_new (w.alloc (.cells #[.slice none 0 0,.int .i64 0,.slice none 0 0,.slice none 0 0] 27)) (.cells #[.string rest,.nilIface] 91)
 have h2:=Rdr.heap_new ((w.alloc (.cells #[.slice none 0 0,.int .i64 0,.slice none 0 0,.slice none 0 0] 27)).alloc (.cells #[.string rest,.nilIface] 91)) (.cells #[.slice none 0 0,.int .i64 0,.slice none 0 0,.slice none 0 0] 27)
 rw [alloc_size1] at h1
 rw [alloc_size1,alloc_size1] at h2
 exact ⟨⟨rest,.nilIface,h,Rdr.heap_old h1,rfl,rfl⟩,Rdr.heap_old (Rdr.heap_old (Rdr.heap_new w _)),h2,(((Below.refl _ _).alloc (Nat.le_refl _) _).alloc (by simp) _).alloc (by simp;omega) _,own_nil _ _ _ _,World.ownsRow_nil _ _ _ _,(fun x hx=> nomatch hx),own_nil _ _ _ _⟩
theorem own_max {W:World} {B sz n:Nat} {T:TypeId} {v:Value} {xs:List Value} (h:W.ownsRow B T sz v n xs):n≤9223372036854775807:=by
 rcases h.2 with ⟨_,h0⟩|⟨g,cap,cur,_,_,_,hnc,hm,_⟩
 · omega
 · have hm':cap≤9223372036854775807:=hm
   omega
theorem winsAt_own {W:World} {B:Nat} {v:Value} {rs:List (Value × List (List Int))} (h:W.ownsRow B 97 1 v rs.length (rs.map (·.1))) (hr:∀ x ∈ rs,RowsAt W 3 x.1 x.2):WinsAt W v (rs.map (·.2)):=by
 have hmax:=own_max h
 rcases h.2 with ⟨rfl,h0⟩|⟨g,cap,cur,rfl,hb,hg,hnc,hm,hc,ht⟩
 · have:rs=[]:=List.length_eq_zero_iff.mp h0
   subst this
   exact ⟨none,0,rfl,Nat.zero_le _,.inl rfl⟩
 · refine ⟨some ⟨g,0,none⟩,cap,by rw [List.length_map],by rw [List.length_map];exact hmax,.inr ⟨g,0,rfl,Rdr.heap_lt hg,fun i hi=> ?_⟩⟩
   rw [List.length_map] at hi
   refine ⟨(rs[i]).1,?_,?_⟩
   · rw [Rdr.heap_cell hg,← Array.getElem?_toList,Nat.zero_add]
     have:cur.toList[i]? =(cur.toList.take (rs.length * 1))[i]? :=by rw [List.getElem?_take_of_lt (by omega)]
     rw [this,ht,List.getElem?_map,List.getElem?_eq_getElem hi];rfl
   · have:(rs.map (·.2)).getD i []=(rs[i]).2:=by simp [List.getD,hi]
     rw [this]
     exact hr _ (List.getElem_mem hi)
theorem plan_at {w W:World} {st:Pl.St} {v1 v3 v4:Value} {ps cs:List (List Int)} {fr:Int} {rs:List (Value × List (List Int))} (h:Full w st v1 v3 v4 ps fr rs cs W):PlanAt W (.agg #[v1,.int .i64 fr,v3,v4]) ⟨ps,fr,rs.map (·.2),cs⟩:=
 ⟨v1,v3,v4,rfl,rowsAt_own h.parts.1 h.parts.2 rfl (own_max h.parts.1),winsAt_own h.wins (fun x hx=> by obtain ⟨B,hB⟩:=h.rows x hx;exact rowsAt_own hB.1 hB.2 rfl (own_max hB.1)),rowsAt_own h.chans.1 h.chans.2 rfl (own_max h.chans.1)⟩
def CapV (v:Value):Prop:=∃ a n c,v=.slice a n c∧n≤c∧c≤9223372036854775807
theorem capV_own {W:World} {B sz n:Nat} {T:TypeId} {v:Value} {xs:List Value} (h:W.ownsRow B T sz v n xs):CapV v:=by
 rcases h.2 with ⟨rfl,_⟩|⟨g,cap,cur,rfl,_,_,hnc,hm,_⟩
 · exact ⟨_,_,_,rfl,Nat.le_refl _,by omega⟩
 · exact ⟨_,_,_,rfl,hnc,hm⟩
def Stay (W W':World):Prop:=∀ (k:Nat) (c:Array Value) (T:TypeId),W.heap[k]? =some (.cells c T (0,0))→T ≠ 27→T ≠ 33→W'.heap[k]? =W.heap[k]?
def PlanC (W:World) (v:Value) (P:Pl.Plan):Prop:=(∀ W',Stay W W'→PlanAt W' v P)∧∃ vp vw vc,v=.agg #[vp,.int .i64 P.fr,vw,vc]∧CapV vp∧CapV vc
def fin (st:Pl.St) (P:Pl.Plan):Except Nat Pl.Plan:=match st with| .error c=> .error c| .ok t=> if t=[] then .ok P else .error 3
theorem fin_of {b:Nat} {st:Pl.St} {W:World} (h:Rdr.Rd b st W) (P:Pl.Plan):(Rdr.errnoV st=0∧fin st P=.ok P)∨(Rdr.errnoV st ≠ 0∧fin st P=.error (Rdr.errnoV st).toNat):=by
 obtain ⟨s,v,hs,h0,hv⟩:=h
 match st,hv with
 | .error c,hv=>
   rcases hv with ⟨rfl,p,rfl⟩|⟨rfl,x,rfl,hx⟩
   · exact .inr ⟨by decide,rfl⟩
   · exact .inr ⟨by decide,rfl⟩
 | .ok l,hv=>
   by_cases hl:l=[]
   · exact .inl ⟨by simp [Rdr.errnoV,hl],by simp [fin,hl]⟩
   · exact .inr ⟨by simp [Rdr.errnoV,hl],by simp [Rdr.errnoV,fin,hl]⟩
theorem ends {l:List UInt8} {n m c:Nat} {fr:Int} {ps cs:List (List Int)} {ws:List (List (List Int))} {st2 sta st3 st4 stb st5 st:Pl.St} (h1:Pl.numS 4 (.ok l)=((n:Int),st2)) (h2:Pl.rowsS 4 n st2=(ps,sta)) (h3:Pl.numS 65536 sta=(fr,st3)) (h4:Pl.numS 3 st3=((m:Int),st4)) (h5:Pl.winsS m st4=(ws,stb)) (h6:Pl.numS 6 stb=((c:Int),st5)) (h7:Pl.rowsS 5 c st5=(cs,st)):
 Pl.parse l=fin st ⟨ps,fr,ws,cs⟩:=by
 have e1:Pl.ps1 l=((n:Int),st2):=h1
 have e2:Pl.ps2 l=(ps,sta):=by unfold Pl.ps2;rw [e1];exact h2
 have e3:Pl.ps3 l=(fr,st3):=by unfold Pl.ps3;rw [e2];exact h3
 have e4:Pl.ps4 l=((m:Int),st4):=by unfold Pl.ps4;rw [e3];exact h4
 have e5:Pl.ps5 l=(ws,stb):=by unfold Pl.ps5;rw [e4];exact h5
 have e6:Pl.ps6 l=((c:Int),st5):=by unfold Pl.ps6;rw [e5];exact h6
 have e7:Pl.ps7 l=(cs,st):=by unfold Pl.ps7;rw [e6];exact h7
 rw [Pl.parse_endS]
 unfold Pl.endS Pl.planS
 rw [e7,e2,e3,e5]
 cases st <;> rfl
theorem bel_set {w W:World} {k j:Nat} {v:Value} (h:Below w.heap.size w W) (hk:w.heap.size≤k):Below w.heap.size w (W.setCell ⟨k,j,none⟩ v):=h.trans ⟨rfl,rfl,rfl,by simp [World.setCell],fun i hi=> Rdr.heap_set_ne (by omega)⟩
theorem plan_stay {w W W':World} {st:Pl.St} {v1 v3 v4:Value} {ps cs:List (List Int)} {fr:Int} {rs:List (Value × List (List Int))} (h:Full w st v1 v3 v4 ps fr rs cs W) (hs:∀ (k:Nat) (c:Array Value) (T:TypeId),W.heap[k]? =some (.cells c T (0,0))→T ≠ 27→T ≠ 33→W'.heap[k]? =W.heap[k]?):PlanAt W' (.agg #[v1,.int .i64 fr,v3,v4]) ⟨ps,fr,rs.map (·.2),cs⟩:=by
 refine ⟨v1,v3,v4,rfl,rowsAt_own (own_stay h.parts (fun k c hc=> hs k c _ hc (by decide) (by decide))).1 h.parts.2 rfl (own_max h.parts.1),winsAt_own (ownsRow_same h.wins (fun g hg=> ?_)) (fun x hx=> ?_),rowsAt_own (own_stay h.chans (fun k c hc=> hs k c _ hc (by decide) (by decide))).1 h.chans.2 rfl (own_max h.chans.1)⟩
 · obtain ⟨_,_,cur,hc⟩:=ownBlock_lt h.wins hg
   exact hs g cur _ hc (by decide) (by decide)
 · obtain ⟨B,hB⟩:=h.rows x hx
   exact rowsAt_own (own_stay hB (fun k c hc=> hs k c _ hc (by decide) (by decide))).1 hB.2 rfl (own_max hB.1)
theorem plan_set {w W W8 W9:World} {st:Pl.St} {v1 v3 v4:Value} {ps cs:List (List Int)} {fr:Int} {rs:List (Value × List (List Int))} (h:Full w st v1 v3 v4 ps fr rs cs W) (h8:Below W.heap.size W W8) (h9:Below W8.heap.size W8 W9) (x0 x1 x2 x3:Value):PlanC ((((W9.setCell ⟨w.heap.size,0,none⟩ x0).setCell ⟨w.heap.size,1,none⟩ x1).setCell ⟨w.heap.size,2,none⟩ x2).setCell ⟨w.heap.size,3,none⟩ x3) (.agg #[v1,.int .i64 fr,v3,v4]) ⟨ps,fr,rs.map (·.2),cs⟩:=by
 refine ⟨fun W' hs'=> plan_stay h (fun k c T hc hT hT2=> ?_),v1,v3,v4,rfl,capV_own h.parts.1,capV_own h.chans.1⟩
 have hne:=ne_of_types hc h.res hT
 have hl:=Rdr.heap_lt hc
 have hz:=h8.size
 have e:((((W9.setCell ⟨w.heap.size,0,none⟩ x0).setCell ⟨w.heap.size,1,none⟩ x1).setCell ⟨w.heap.size,2,none⟩ x2).setCell ⟨w.heap.size,3,none⟩ x3).heap[k]? =W.heap[k]? :=by
  rw [Rdr.heap_set_ne hne,Rdr.heap_set_ne hne,Rdr.heap_set_ne hne,Rdr.heap_set_ne hne,h9.block k (by omega),h8.block k hl]
 exact (hs' k c T (e.trans hc) hT hT2).trans e
theorem rest_list {s rest:ByteArray} (h:s.extract 2 s.size=rest):rest.data.toList=s.data.toList.drop 2:=by
 subst h
 have e:=ByteArray.data_extract (a:=s) (b:=2) (e:=s.size)
 rw [e,Array.toList_extract]
 simp [List.extract_eq_take_drop]
 exact List.take_of_length_le (by rw [List.length_drop,Array.length_toList];exact Nat.le_refl _)
theorem took_ok {s rest:ByteArray} {P:Pl.Plan} (hp:s.data.toList.take 2=[84,80]) (hr:s.extract 2 s.size=rest) (h:Pl.parse rest.data.toList=.ok P) (hc:Pl.check P=0):Pl.take s.data.toList=.ok P:=by
 unfold Pl.take
 rw [if_pos hp,← rest_list hr,h]
 simp [Pl.bnd,hc]
theorem took_bad {s rest:ByteArray} {P:Pl.Plan} (hp:s.data.toList.take 2=[84,80]) (hr:s.extract 2 s.size=rest) (h:Pl.parse rest.data.toList=.ok P) (hc:¬ Pl.check P=0):Pl.take s.data.toList=.error (Pl.check P).toNat:=by
 unfold Pl.take
 rw [if_pos hp,← rest_list hr,h]
 simp [Pl.bnd,hc]
theorem took_err {s rest:ByteArray} {c:Nat} (hp:s.data.toList.take 2=[84,80]) (hr:s.extract 2 s.size=rest) (h:Pl.parse rest.data.toList=.error c):Pl.take s.data.toList=.error c:=by
 unfold Pl.take
 rw [if_pos hp,← rest_list hr,h]
 rfl
theorem took_no {s:ByteArray} (hp:¬ s.data.toList.take 2=[84,80]):Pl.take s.data.toList=.error 3:=by
 unfold Pl.take
 rw [if_neg hp]
theorem res_run {W:World} {b:Nat} {tmps:Array Value} {x0 x1 x2 x3 e:Value} (h2:tmps.getD 2 undef=.pointer (some ⟨b,0,none⟩)) (h3:tmps.getD 3 undef=e) (c0:W.cell? ⟨b,0,none⟩=some x0) (c1:W.cell? ⟨b,1,none⟩=some x1) (c2:W.cell? ⟨b,2,none⟩=some x2) (c3:W.cell? ⟨b,3,none⟩=some x3):
 (results Tryz.f9 tmps).run Tryz.prog W=.ok (.tuple #[.agg #[x0,x1,x2,x3],e]) W:=by
 rw [results_cell_tmp Tryz.results9,h2,h3]
 go_simp
theorem bel_set4 {w W:World} (h:Below w.heap.size w W) (x0 x1 x2 x3:Value):Below w.heap.size w ((((W.setCell ⟨w.heap.size,0,none⟩ x0).setCell ⟨w.heap.size,1,none⟩ x1).setCell ⟨w.heap.size,2,none⟩ x2).setCell ⟨w.heap.size,3,none⟩ x3):=
 bel_set (bel_set (bel_set (bel_set h (Nat.le_refl _)) (Nat.le_refl _)) (Nat.le_refl _)) (Nat.le_refl _)
theorem res_run4 {w W:World} {tmps:Array Value} {e:Value} (h:Res w W) (h2:tmps.getD 2 undef=.pointer (some ⟨w.heap.size,0,none⟩)) (h3:tmps.getD 3 undef=e) (x0 x1 x2 x3:Value):
 (results Tryz.f9 tmps).run Tryz.prog ((((W.setCell ⟨w.heap.size,0,none⟩ x0).setCell ⟨w.heap.size,1,none⟩ x1).setCell ⟨w.heap.size,2,none⟩ x2).setCell ⟨w.heap.size,3,none⟩ x3)=.ok (.tuple #[.agg #[x0,x1,x2,x3],e]) ((((W.setCell ⟨w.heap.size,0,none⟩ x0).setCell ⟨w.heap.size,1,none⟩ x1).setCell ⟨w.heap.size,2,none⟩ x2).setCell ⟨w.heap.size,3,none⟩ x3):=by
 have hh:=set_heap (j:=3) (v:=x3) (set_heap (j:=2) (v:=x2) (set_heap (j:=1) (v:=x1) (set_heap (j:=0) (v:=x0) h)))
 exact res_run h2 h3 (Rdr.heap_cell hh 0) (Rdr.heap_cell hh 1) (Rdr.heap_cell hh 2) (Rdr.heap_cell hh 3)
def Took (s:ByteArray) (w:World) (e:Ending) (W:World):Prop:=
 ∃ (v:Value) (c:Int),e=.returned (.tuple #[v,.int .i64 c])∧Below w.heap.size w W∧((c=0∧∃ P,Pl.take s.data.toList=.ok P∧PlanC W v P)∨(c ≠ 0∧v=.agg #[.slice none 0 0,.int .i64 0,.slice none 0 0,.slice none 0 0]∧Pl.take s.data.toList=.error c.toNat))
theorem Take (s:ByteArray) (w:World) (hs:s.size≤140737488355328) (hg:w.cell? ⟨0,0,none⟩=some (.iface 188 (.agg #[Err.hE]))):Calls Tryz.prog 9 #[.string s] w (Took s w):=by
 have hw0:0<w.heap.size:=by
  rcases Nat.eq_zero_or_pos w.heap.size with h0|h'
  · simp [World.cell?,h0] at hg
  · exact h'
 have HG:Hid (∀ W:World,Below w.heap.size w W→W.cell? ⟨0,0,none⟩=some (.iface 188 (.agg #[Err.hE]))):=hU (fun W hb=> (hb.cell (p:=⟨0,0,none⟩) hw0).trans hg)
 clear hg
 by_cases hp:s.data.toList.take 2=[84,80]
 · have hsz:(s.extract 2 s.size).size≤140737488355328:=by rw [ByteArray.size_extract];omega
   have HSZ:=hU hsz
   clear hsz
   go_enter Tryz.func9,Tryz.ntmps9
   repeat' (first|go_values|go_skip|go_guarded|(with_reducible refine wg ?_)|go_step|go_upon)
   refine (cut_yes s _ hs hp).mono ?_
   rintro ev w1 ⟨rfl,rfl⟩
   generalize hrest:s.extract 2 s.size=rest at *
   dsimp only
   repeat' (first|go_values|go_skip|go_guarded|(with_reducible refine wg ?_)|go_step|go_upon)
   have hF0:Full w (.ok rest.data.toList) (.slice none 0 0) (.slice none 0 0) (.slice none 0 0) [] 0 [] [] (((w.alloc (.cells #[.slice none 0 0,.int .i64 0,.slice none 0 0,.slice none 0 0] 27)).alloc (.cells #[.string rest,.nilIface] 91)).alloc (.cells #[.slice none 0 0,.int .i64 0,.slice none 0 0,.slice none 0 0] 27)):=full_start w rest HSZ.out
   have HF0:=hU hF0
   clear hF0
   refine (Rdr.num (w.heap.size + 1) 4 (.ok rest.data.toList) _ HF0.out.rd (by omega)).mono ?_
   rintro ev w2 ⟨rfl,hr2,hk2⟩
   have HF2:=hU (full_keep HF0.out (KU.of hk2 (Nat.le_refl _)) hr2)
   have hnl:=numS_le 4 (.ok rest.data.toList)
   clear HF0 hr2 hk2
   generalize hq1:Pl.numS 4 (.ok rest.data.toList)=q1 at *
   obtain ⟨N,st2⟩:=q1
   have HQ1:=hU hq1
   clear hq1
   dsimp only at *
   obtain ⟨Nn,rfl⟩:=Int.eq_ofNat_of_zero_le hnl.1
   repeat' (first|go_values|go_skip|go_guarded|(with_reducible refine wg ?_)|go_step|go_upon)
   go_loopw [30] (fun iv wr=> L1 w Nn st2 iv wr) (fun v _=> Nn - (intOf v).toNat)
   case atStart=> exact ⟨0,st2,_,[],Nat.zero_le _,rfl,rfl,HF2.out,rfl⟩
   case round=>
    clear HF2
    obtain ⟨i,st,v1,ps,hi,rfl,hpl,hF,heq⟩:=hrel
    have HF:=hU hF
    have HEQ:=hU heq
    have hzb:=hF.bel.size
    have hzp:=Rdr.heap_lt hF.pln
    clear hF heq
    by_cases hlt:i<Nn
    · repeat' (first|go_values|go_skip|go_guarded|(with_reducible refine wg ?_)|go_step|go_upon)
      refine (Rdr.any (w.heap.size + 1) st _ HF.out.rd).mono ?_
      rintro ev w3 ⟨rfl,hr3,hk3⟩
      generalize hq:Pl.numS 65536 st=q at *
      obtain ⟨x0,st3⟩:=q
      have HQ3:=hU hq
      have HR3:=hU hr3
      have HK3:=hU (KU.of hk3 (Nat.le_refl _))
      have hz3:=hk3.size
      clear hq hr3 hk3
      dsimp only at *
      have hx3:w3.heap.size ≠ w.heap.size + 1:=by omega
      have hx3':w3.heap.size ≠ w.heap.size + 1 + 1:=by omega
      repeat' (first|go_values|go_skip|go_guarded|(with_reducible refine wg ?_)|go_step|go_upon)
      refine wp_loop_rounds 4 ?_
      rw [rounds_succ]
      repeat' (first|go_values|go_skip|go_guarded|(with_reducible refine wg ?_)|go_step|go_upon)
      refine (Rdr.any (w.heap.size + 1) st3 _ (HR3.out.below ((Below.refl _ _).alloc (Nat.le_refl _) _))).mono ?_
      rintro ev w4 ⟨rfl,hr4,hk4⟩
      generalize hq:Pl.numS 65536 st3=q at *
      obtain ⟨x1,st4⟩:=q
      have HQ4:=hU hq
      have hh4:=kept_heap hk4 (Rdr.heap_new w3 _) hx3
      have HK4:=hU ((HK3.out.alloc hz3 _).trans (KU.of hk4 (by simp;omega)))
      have HH4:=hU hh4
      have HR4:=hU (rd_set (j:=1) (v:=.int .i64 x1) hr4 hh4 (by decide) (by decide))
      have c41:w4.cell? ⟨w3.heap.size,1,none⟩=some (.int .i64 0):=Rdr.heap_cell hh4 1
      have f41:w4.frozen? ⟨w3.heap.size,1,none⟩=false:=Lib.frozen_of_heap hh4 1
      have hz4:w3.heap.size<w4.heap.size:=Rdr.heap_lt hh4
      clear hq hr4 hk4 hh4 HR3 HK3
      dsimp only at *
      repeat' (first|go_values|go_skip|go_guarded|(with_reducible refine wg ?_)|go_step|go_upon)
      rw [rounds_succ]
      repeat' (first|go_values|go_skip|go_guarded|(with_reducible refine wg ?_)|go_step|go_upon)
      refine (Rdr.any (w.heap.size + 1) st4 _ HR4.out).mono ?_
      rintro ev w5 ⟨rfl,hr5,hk5⟩
      generalize hq:Pl.numS 65536 st4=q at *
      obtain ⟨x2,st5⟩:=q
      have HQ5:=hU hq
      have hh5:=kept_heap hk5 (set_heap HH4.out) hx3
      have HK5:=hU ((HK4.out.set (j:=1) (v:=.int .i64 x1) hz3).trans (KU.of hk5 (by simp [World.setCell];omega)))
      have HH5:=hU hh5
      have HR5:=hU (rd_set (j:=2) (v:=.int .i64 x2) hr5 hh5 (by decide) (by decide))
      have c51:w5.cell? ⟨w3.heap.size,2,none⟩=some (.int .i64 0):=Rdr.heap_cell hh5 2
      have f51:w5.frozen? ⟨w3.heap.size,2,none⟩=false:=Lib.frozen_of_heap hh5 2
      have hz5:w3.heap.size<w5.heap.size:=Rdr.heap_lt hh5
      clear hq hr5 hk5 hh5 HR4 HK4 c41 f41
      dsimp only at *
      repeat' (first|go_values|go_skip|go_guarded|(with_reducible refine wg ?_)|go_step|go_upon)
      rw [rounds_succ]
      repeat' (first|go_values|go_skip|go_guarded|(with_reducible refine wg ?_)|go_step|go_upon)
      refine (Rdr.any (w.heap.size + 1) st5 _ HR5.out).mono ?_
      rintro ev w6 ⟨rfl,hr6,hk6⟩
      generalize hq:Pl.numS 65536 st5=q at *
      obtain ⟨x3,st6⟩:=q
      have HQ6:=hU hq
      have hh6:=kept_heap hk6 (set_heap HH5.out) hx3
      have HK6:=hU ((HK5.out.set (j:=2) (v:=.int .i64 x2) hz3).trans (KU.of hk6 (by simp [World.setCell];omega)))
      have HH6:=hU hh6
      have HR6:=hU (rd_set (j:=3) (v:=.int .i64 x3) hr6 hh6 (by decide) (by decide))
      have c61:w6.cell? ⟨w3.heap.size,3,none⟩=some (.int .i64 0):=Rdr.heap_cell hh6 3
      have f61:w6.frozen? ⟨w3.heap.size,3,none⟩=false:=Lib.frozen_of_heap hh6 3
      have hz6:w3.heap.size<w6.heap.size:=Rdr.heap_lt hh6
      clear hq hr6 hk6 hh6 HR5 HK5 c51 f51
      dsimp only at *
      repeat' (first|go_values|go_skip|go_guarded|(with_reducible refine wg ?_)|go_step|go_upon)
      rw [rounds_succ]
      have hB:(w6.setCell ⟨w3.heap.size,3,none⟩ (.int .i64 x3)).heap[w3.heap.size]? =some (.cells #[.int .i64 x0,.int .i64 x1,.int .i64 x2,.int .i64 x3] 96 (0,0)):=by
       rw [set_heap HH6.out];rfl
      have hF6:=full_keep HF.out (HK6.out.set (j:=3) (v:=.int .i64 x3) hz3) HR6.out
      generalize hW6:w6.setCell ⟨w3.heap.size,3,none⟩ (.int .i64 x3)=W6 at *
      have hzW:w3.heap.size<W6.heap.size:=Rdr.heap_lt hB
      have hpc:W6.cell? ⟨w.heap.size + 1 + 1,0,none⟩=some v1:=Rdr.heap_cell hF6.pln 0
      have hpf:W6.frozen? ⟨w.heap.size + 1 + 1,0,none⟩=false:=Lib.frozen_of_heap hF6.pln 0
      have b0:W6.cell? ⟨w3.heap.size,0,none⟩=some (.int .i64 x0):=Rdr.heap_cell hB 0
      have b1:W6.cell? ⟨w3.heap.size,1,none⟩=some (.int .i64 x1):=Rdr.heap_cell hB 1
      have b2:W6.cell? ⟨w3.heap.size,2,none⟩=some (.int .i64 x2):=Rdr.heap_cell hB 2
      have b3:W6.cell? ⟨w3.heap.size,3,none⟩=some (.int .i64 x3):=Rdr.heap_cell hB 3
      obtain ⟨g,cap,W',hrun,ho',hg',hgg,hgl⟩:=append_cells (P:=Tryz.prog) (t:=23) (ty:=23) Tryz.underlying23 infoPart rfl (by decide) (W:=W6) (x:=#[.int .i64 x0,.int .i64 x1,.int .i64 x2,.int .i64 x3]) hF6.parts.1 (by intro u hu;simp at hu;rcases hu with rfl|rfl|rfl|rfl <;> rfl) rfl (by omega) (by omega) (by omega)
      have hp':Pln w v1 0 (.slice none 0 0) (.slice none 0 0) W':=((grow_store (x:=v1) (j:=0) hF6 hF6.parts.1 hg').2.1 _ _ _ hF6.pln (by decide)).trans hF6.pln
      have hpc':W'.cell? ⟨w.heap.size + 1 + 1,0,none⟩=some v1:=Rdr.heap_cell hp' 0
      have hpf':W'.frozen? ⟨w.heap.size + 1 + 1,0,none⟩=false:=Lib.frozen_of_heap hp' 0
      have HN:=hU (full_part (r:=[x0,x1,x2,x3]) hF6 hg' rfl ho')
      have HRUN:=hU hrun
      clear hF6 hB HK6 HR6 c61 f61 ho' hg' hrun hp'
      repeat' (first|(at_builtin;refine wpList_append_run _ rfl _ _ _ _ rfl _ _ rfl rfl _ _ HRUN.out ?_)|go_values|go_skip|go_guarded|(with_reducible refine wg ?_)|go_step|go_upon)
      have hk:Nn - i=Nn - (i + 1) + 1:=by omega
      have hq:=HEQ.out
      rw [hk,step4 _ HQ3.out HQ4.out HQ5.out HQ6.out] at hq
      exact ⟨⟨i + 1,st6,_,ps ++ [[x0,x1,x2,x3]],by omega,by simp,by simp [hpl],by subst hpl;exact HN.out,by rw [hq];simp⟩,by simp [intOf];omega⟩
    · obtain rfl:i=Nn:=by omega
      have hq:=HEQ.out
      rw [Nat.sub_self] at hq
      have HQR:=hU (show Pl.rowsS 4 i st2=(ps,st) by rw [hq];simp [Pl.rowsS])
      clear hq HEQ hi hlt hnl hpl
      repeat' (first|go_values|go_skip|go_guarded|(with_reducible refine wg ?_)|go_step|go_upon)
      refine (Rdr.any (w.heap.size + 1) st _ HF.out.rd).mono ?_
      rintro ev w3 ⟨rfl,hr3,hk3⟩
      have HF3:=hU (full_frame (fr':=(Pl.numS 65536 st).1) (full_keep HF.out (KU.of hk3 (Nat.le_refl _)) hr3))
      have hp3:=(full_keep HF.out (KU.of hk3 (Nat.le_refl _)) hr3).pln
      have c31:w3.cell? ⟨w.heap.size + 1 + 1,1,none⟩=some (.int .i64 0):=Rdr.heap_cell hp3 1
      have f31:w3.frozen? ⟨w.heap.size + 1 + 1,1,none⟩=false:=Lib.frozen_of_heap hp3 1
      have hfr:=(numS_le 65536 st).2.2
      generalize hq:Pl.numS 65536 st=q at *
      obtain ⟨fr,st3⟩:=q
      have HQ3:=hU hq
      clear hq hr3 hk3 HF hp3
      dsimp only at *
      repeat' (first|go_values|go_skip|go_guarded|(with_reducible refine wg ?_)|go_step|go_upon)
      generalize hW:w3.setCell ⟨w.heap.size + 1 + 1,1,none⟩ (.int .i64 fr)=W3 at *
      refine (Rdr.num (w.heap.size + 1) 3 st3 _ HF3.out.rd (by omega)).mono ?_
      rintro ev w4 ⟨rfl,hr4,hk4⟩
      have HF4:=hU (full_keep HF3.out (KU.of hk4 (Nat.le_refl _)) hr4)
      have hnl:=numS_le 3 st3
      clear HF3 hr4 hk4
      generalize hq1:Pl.numS 3 st3=q1 at *
      obtain ⟨M,st4⟩:=q1
      have HQ4:=hU hq1
      clear hq1
      dsimp only at *
      obtain ⟨Mn,rfl⟩:=Int.eq_ofNat_of_zero_le hnl.1
      repeat' (first|go_values|go_skip|go_guarded|(with_reducible refine wg ?_)|go_step|go_upon)
      go_loopw [56] (fun iv wr=> L3 w v1 ps fr Mn st4 iv wr) (fun v _=> Mn - (intOf v).toNat)
      case atStart=> exact ⟨0,st4,_,[],Nat.zero_le _,rfl,rfl,HF4.out,rfl⟩
      case round=>
       clear HF4
       obtain ⟨i,st,v3,rs,hi,rfl,hpl,hF,heq⟩:=hrel
       have HF:=hU hF
       have HEQ:=hU heq
       have hzb:=hF.bel.size
       have hzp:=Rdr.heap_lt hF.pln
       clear hF heq
       by_cases hlt:i<Mn
       · repeat' (first|go_values|go_skip|go_guarded|(with_reducible refine wg ?_)|go_step|go_upon)
         refine (Rdr.num (w.heap.size + 1) 8 st _ HF.out.rd (by omega)).mono ?_
         rintro ev w5 ⟨rfl,hr5,hk5⟩
         have HF5:=hU (full_keep HF.out (KU.of hk5 (Nat.le_refl _)) hr5)
         have hz5:=Rdr.heap_lt HF5.out.pln
         have hnk:=numS_le 8 st
         clear hr5 hk5 HF
         generalize hq1:Pl.numS 8 st=q1 at *
         obtain ⟨K,st5⟩:=q1
         have HQ5:=hU hq1
         clear hq1
         dsimp only at *
         obtain ⟨Kn,rfl⟩:=Int.eq_ofNat_of_zero_le hnk.1
         repeat' (first|go_values|go_skip|go_guarded|(with_reducible refine wg ?_)|go_step|go_upon)
         go_loopw [10,60] (fun av jv wq=> L4 (w.heap.size + 1) w5 Kn st5 jv av wq) (fun _ jv _=> Kn - (intOf jv).toNat)
         case atStart=> exact ⟨0,st5,[],Nat.zero_le _,rfl,rfl,HF5.out.rd,KU.refl _ _ _,own_nil _ _ _ _,rfl⟩
         case round=>
          obtain ⟨j,sr,l,hj,rfl,hll,hrd,hku,hown,heq⟩:=hrel
          have HRD:=hU hrd
          have HKU:=hU hku
          have HOW:=hU hown
          have HEQ2:=hU heq
          have hzk:=hku.size
          clear hrd hku hown heq
          by_cases hjt:j<Kn
          · repeat' (first|go_values|go_skip|go_guarded|(with_reducible refine wg ?_)|go_step|go_upon)
            refine (Rdr.any (w.heap.size + 1) sr _ HRD.out).mono ?_
            rintro ev w6 ⟨rfl,hr6,hk6⟩
            generalize hq:Pl.numS 65536 sr=q at *
            obtain ⟨x0,st6⟩:=q
            have HQ6:=hU hq
            have HR6:=hU hr6
            have HK6:=hU (KU.of hk6 (Nat.le_refl _))
            have hz6:=hk6.size
            clear hq hr6 hk6
            dsimp only at *
            have hx6:w6.heap.size ≠ w.heap.size + 1:=by omega
            have hx6':w6.heap.size ≠ w.heap.size + 1 + 1:=by omega
            repeat' (first|go_values|go_skip|go_guarded|(with_reducible refine wg ?_)|go_step|go_upon)
            refine (Rdr.any (w.heap.size + 1) st6 _ (HR6.out.below ((Below.refl _ _).alloc (Nat.le_refl _) _))).mono ?_
            rintro ev w7 ⟨rfl,hr7,hk7⟩
            generalize hq:Pl.numS 65536 st6=q at *
            obtain ⟨x1,st7⟩:=q
            have HQ7:=hU hq
            have hh7:=kept_heap hk7 (Rdr.heap_new w6 _) hx6
            have HK7:=hU ((HK6.out.alloc hz6 _).trans (KU.of hk7 (by simp;omega)))
            have HH7:=hU hh7
            have HR7:=hU (rd_set (j:=1) (v:=.int .i64 x1) hr7 hh7 (by decide) (by decide))
            have c71:w7.cell? ⟨w6.heap.size,1,none⟩=some (.int .i64 0):=Rdr.heap_cell hh7 1
            have f71:w7.frozen? ⟨w6.heap.size,1,none⟩=false:=Lib.frozen_of_heap hh7 1
            have hz7:w6.heap.size<w7.heap.size:=Rdr.heap_lt hh7
            clear hq hr7 hk7 hh7 HR6 HK6
            dsimp only at *
            repeat' (first|go_values|go_skip|go_guarded|(with_reducible refine wg ?_)|go_step|go_upon)
            refine (Rdr.any (w.heap.size + 1) st7 _ HR7.out).mono ?_
            rintro ev w8 ⟨rfl,hr8,hk8⟩
            generalize hq:Pl.numS 65536 st7=q at *
            obtain ⟨x2,st8⟩:=q
            have HQ8:=hU hq
            have hh8:=kept_heap hk8 (set_heap HH7.out) hx6
            have HK8:=hU ((HK7.out.set (j:=1) (v:=.int .i64 x1) hz6).trans (KU.of hk8 (by simp [World.setCell];omega)))
            have HH8:=hU hh8
            have HR8:=hU (rd_set (j:=2) (v:=.int .i64 x2) hr8 hh8 (by decide) (by decide))
            have c81:w8.cell? ⟨w6.heap.size,2,none⟩=some (.int .i64 0):=Rdr.heap_cell hh8 2
            have f81:w8.frozen? ⟨w6.heap.size,2,none⟩=false:=Lib.frozen_of_heap hh8 2
            have hz8:w6.heap.size<w8.heap.size:=Rdr.heap_lt hh8
            clear hq hr8 hk8 hh8 HR7 HK7 c71 f71
            dsimp only at *
            have hB:(w8.setCell ⟨w6.heap.size,2,none⟩ (.int .i64 x2)).heap[w6.heap.size]? =some (.cells #[.int .i64 x0,.int .i64 x1,.int .i64 x2] 99 (0,0)):=by
             rw [set_heap HH8.out];rfl
            have hKW:=HK8.out.set (j:=2) (v:=.int .i64 x2) hz6
            have hRW:=HR8.out
            have b0:w8.cell? ⟨w6.heap.size,0,none⟩=some (.int .i64 x0):=Rdr.heap_cell HH8.out 0
            have b1:w8.cell? ⟨w6.heap.size,1,none⟩=some (.int .i64 x1):=Rdr.heap_cell HH8.out 1
            have hsW:(w8.setCell ⟨w6.heap.size,2,none⟩ (.int .i64 x2)).heap.size=w8.heap.size:=by simp [World.setCell]
            have hOW:=own_ku HOW.out hKW HRD.out (by decide)
            obtain ⟨g,cap,W',hrun,ho',hg',hgg,hgl⟩:=append_cells (P:=Tryz.prog) (t:=97) (ty:=97) Tryz.underlying97 infoWin rfl (by decide) (W:=w8.setCell ⟨w6.heap.size,2,none⟩ (.int .i64 x2)) (x:=#[.int .i64 x0,.int .i64 x1,.int .i64 x2]) hOW.1 (by intro u hu;simp at hu;rcases hu with rfl|rfl|rfl <;> rfl) rfl (by omega) (by omega) (by rw [hsW];omega)
            rw [hsW] at hrun
            have HRN:=hU (rd_grow hRW hOW.1 hg' (by decide) (by decide))
            have HKN:=hU ((HKU.out.trans (hKW.mono hzk)).grow hOW.1 hg' (by rw [hsW];omega))
            have HON:=hU (own_app hOW (r:=[x0,x1,x2]) rfl ho')
            have HRUN:=hU hrun
            clear hB HK8 HR8 ho' hg' hrun hKW hRW hOW
            repeat' (first|(at_builtin;refine wpList_append_run _ rfl _ _ _ _ rfl _ _ rfl rfl _ _ HRUN.out ?_)|go_values|go_skip|go_guarded|(with_reducible refine wg ?_)|go_step|go_upon)
            have hk:Kn - j=Kn - (j + 1) + 1:=by omega
            have hq:=HEQ2.out
            rw [hk,step3 _ HQ6.out HQ7.out HQ8.out] at hq
            exact ⟨⟨j + 1,st8,l ++ [[x0,x1,x2]],by omega,by simp,by simp [hll],HRN.out,HKN.out,by subst hll;exact HON.out,by rw [hq];simp⟩,by simp [intOf];omega⟩
          · obtain rfl:j=Kn:=by omega
            subst hll
            have hq:=HEQ2.out
            rw [Nat.sub_self] at hq
            have hqr:Pl.rowsS 3 l.length st5=(l,sr):=by rw [hq];simp [Pl.rowsS]
            have hF6:=full_keep HF5.out HKU.out HRD.out
            obtain ⟨ra,rc,rfl⟩:=ownsRow_slice HOW.out.1
            obtain ⟨g,cap,W',hrun,ho',hg',hgg,hgl⟩:=append_one (P:=Tryz.prog) (t:=24) (ty:=24) Tryz.underlying24 infoWins rfl (W:=wr) (x:=.slice ra l.length rc) hF6.wins rfl (by omega) (by omega) (by omega)
            have hp':Pln w v1 fr v3 (.slice none 0 0) W':=((grow_store (x:=v1) (j:=0) hF6 hF6.wins hg').2.1 _ _ _ hF6.pln (by decide)).trans hF6.pln
            have hpc:wr.cell? ⟨w.heap.size + 1 + 1,2,none⟩=some v3:=Rdr.heap_cell hF6.pln 2
            have hpf:wr.frozen? ⟨w.heap.size + 1 + 1,2,none⟩=false:=Lib.frozen_of_heap hF6.pln 2
            have hpc':W'.cell? ⟨w.heap.size + 1 + 1,2,none⟩=some v3:=Rdr.heap_cell hp' 2
            have hpf':W'.frozen? ⟨w.heap.size + 1 + 1,2,none⟩=false:=Lib.frozen_of_heap hp' 2
            have HN:=hU (full_win hF6 hg' HOW.out ho')
            have HRUN:=hU hrun
            have hqs:=HEQ.out
            have hk:Mn - i=Mn - (i + 1) + 1:=by omega
            rw [hk,stepw _ HQ5.out hqr] at hqs
            have HEQ3:=hU hqs
            clear hq hF6 ho' hg' hrun hp' hqr hqs HEQ HEQ2
            repeat' (first|(at_builtin;refine wpList_append_run _ rfl _ _ _ _ rfl _ _ rfl rfl _ _ HRUN.out ?_)|go_values|go_skip|go_guarded|(with_reducible refine wg ?_)|go_step|go_upon)
            exact ⟨⟨i + 1,sr,_,rs ++ [(_,l)],by omega,by simp,by simp [hpl],by subst hpl;exact HN.out,by rw [HEQ3.out];simp⟩,by simp [intOf];omega⟩
       · obtain rfl:i=Mn:=by omega
         have hq:=HEQ.out
         rw [Nat.sub_self] at hq
         have HQW:=hU (show Pl.winsS i st4=(rs.map (·.2),st) by rw [hq];simp [Pl.winsS])
         clear hq HEQ hi hlt hnl hpl
         repeat' (first|go_values|go_skip|go_guarded|(with_reducible refine wg ?_)|go_step|go_upon)
         refine (Rdr.num (w.heap.size + 1) 6 st _ HF.out.rd (by omega)).mono ?_
         rintro ev w5 ⟨rfl,hr5,hk5⟩
         have HF5:=hU (full_keep HF.out (KU.of hk5 (Nat.le_refl _)) hr5)
         have hnl:=numS_le 6 st
         clear HF hr5 hk5
         generalize hq1:Pl.numS 6 st=q1 at *
         obtain ⟨C,st5⟩:=q1
         have HQ5:=hU hq1
         clear hq1
         dsimp only at *
         obtain ⟨Cn,rfl⟩:=Int.eq_ofNat_of_zero_le hnl.1
         repeat' (first|go_values|go_skip|go_guarded|(with_reducible refine wg ?_)|go_step|go_upon)
         go_loopw [85] (fun iv wr=> L5 w v1 ps fr v3 rs Cn st5 iv wr) (fun v _=> Cn - (intOf v).toNat)
         case atStart=> exact ⟨0,st5,_,[],Nat.zero_le _,rfl,rfl,HF5.out,rfl⟩
         case round=>
          clear HF5
          obtain ⟨i,st,v4,cs,hi,rfl,hpl,hF,heq⟩:=hrel
          have HF:=hU hF
          have HEQ:=hU heq
          have hzb:=hF.bel.size
          have hzp:=Rdr.heap_lt hF.pln
          clear hF heq
          by_cases hlt:i<Cn
          · repeat' (first|go_values|go_skip|go_guarded|(with_reducible refine wg ?_)|go_step|go_upon)
            refine (Rdr.any (w.heap.size + 1) st _ HF.out.rd).mono ?_
            rintro ev w6 ⟨rfl,hr6,hk6⟩
            generalize hq:Pl.numS 65536 st=q at *
            obtain ⟨x0,st6⟩:=q
            have HQ6:=hU hq
            have HR6:=hU hr6
            have HK6:=hU (KU.of hk6 (Nat.le_refl _))
            have hz6:=hk6.size
            clear hq hr6 hk6
            dsimp only at *
            have hx6:w6.heap.size ≠ w.heap.size + 1:=by omega
            have hx6':w6.heap.size ≠ w.heap.size + 1 + 1:=by omega
            repeat' (first|go_values|go_skip|go_guarded|(with_reducible refine wg ?_)|go_step|go_upon)
            refine wp_loop_rounds 5 ?_
            rw [rounds_succ]
            repeat' (first|go_values|go_skip|go_guarded|(with_reducible refine wg ?_)|go_step|go_upon)
            refine (Rdr.any (w.heap.size + 1) st6 _ ((HR6.out.below ((Below.refl _ _).alloc (Nat.le_refl _) _)).below ((Below.refl _ _).alloc (Nat.le_refl _) _))).mono ?_
            rintro ev w7 ⟨rfl,hr7,hk7⟩
            generalize hq:Pl.numS 65536 st6=q at *
            obtain ⟨x1,st7⟩:=q
            have HQ7:=hU hq
            have hh7:=kept_heap hk7 (Rdr.heap_old (Rdr.heap_new w6 _)) hx6
            have ha7:=kept_heap hk7 (Rdr.heap_new (w6.alloc _) _) (by simp;omega)
            rw [alloc_size1] at ha7
            have HK7:=hU (((HK6.out.alloc hz6 _).alloc (by simp;omega) _).trans (KU.of hk7 (by simp;omega)))
            have HH7:=hU hh7
            have HA7:=hU ha7
            have HR7:=hU (rd_set (j:=1) (v:=.int .i64 x1) hr7 hh7 (by decide) (by decide))
            have c71:w7.cell? ⟨w6.heap.size,1,none⟩=some (.int .i64 0):=Rdr.heap_cell hh7 1
            have f71:w7.frozen? ⟨w6.heap.size,1,none⟩=false:=Lib.frozen_of_heap hh7 1
            have a71:w7.cell? ⟨w6.heap.size + 1,1,none⟩=some (.pointer (some ⟨w6.heap.size,2,none⟩)):=Rdr.heap_cell ha7 1
            have hz7:w6.heap.size + 1<w7.heap.size:=Rdr.heap_lt ha7
            clear hq hr7 hk7 hh7 ha7 HR6 HK6
            dsimp only at *
            repeat' (first|go_values|go_skip|go_guarded|(with_reducible refine wg ?_)|go_step|go_upon)
            rw [rounds_succ]
            repeat' (first|go_values|go_skip|go_guarded|(with_reducible refine wg ?_)|go_step|go_upon)
            refine (Rdr.any (w.heap.size + 1) st7 _ HR7.out).mono ?_
            rintro ev w8 ⟨rfl,hr8,hk8⟩
            generalize hq:Pl.numS 65536 st7=q at *
            obtain ⟨x2,st8⟩:=q
            have HQ8:=hU hq
            have hh8:=kept_heap hk8 (set_heap HH7.out) hx6
            have ha8:=kept_heap hk8 ((Rdr.heap_set_ne (j:=1) (x:=.int .i64 x1) (by omega)).trans HA7.out) (by omega)
            have HK8:=hU ((HK7.out.set (j:=1) (v:=.int .i64 x1) hz6).trans (KU.of hk8 (by simp [World.setCell];omega)))
            have HH8:=hU hh8
            have HA8:=hU ha8
            have HR8:=hU (rd_set (j:=2) (v:=.int .i64 x2) hr8 hh8 (by decide) (by decide))
            have c81:w8.cell? ⟨w6.heap.size,2,none⟩=some (.int .i64 0):=Rdr.heap_cell hh8 2
            have f81:w8.frozen? ⟨w6.heap.size,2,none⟩=false:=Lib.frozen_of_heap hh8 2
            have a81:w8.cell? ⟨w6.heap.size + 1,2,none⟩=some (.pointer (some ⟨w6.heap.size,3,none⟩)):=Rdr.heap_cell ha8 2
            have hz8:w6.heap.size + 1<w8.heap.size:=Rdr.heap_lt ha8
            clear hq hr8 hk8 hh8 ha8 HR7 HK7 c71 f71 a71 HA7
            dsimp only at *
            repeat' (first|go_values|go_skip|go_guarded|(with_reducible refine wg ?_)|go_step|go_upon)
            rw [rounds_succ]
            repeat' (first|go_values|go_skip|go_guarded|(with_reducible refine wg ?_)|go_step|go_upon)
            refine (Rdr.any (w.heap.size + 1) st8 _ HR8.out).mono ?_
            rintro ev w9 ⟨rfl,hr9,hk9⟩
            generalize hq:Pl.numS 65536 st8=q at *
            obtain ⟨x3,st9⟩:=q
            have HQ9:=hU hq
            have hh9:=kept_heap hk9 (set_heap HH8.out) hx6
            have ha9:=kept_heap hk9 ((Rdr.heap_set_ne (j:=2) (x:=.int .i64 x2) (by omega)).trans HA8.out) (by omega)
            have HK9:=hU ((HK8.out.set (j:=2) (v:=.int .i64 x2) hz6).trans (KU.of hk9 (by simp [World.setCell];omega)))
            have HH9:=hU hh9
            have HA9:=hU ha9
            have HR9:=hU (rd_set (j:=3) (v:=.int .i64 x3) hr9 hh9 (by decide) (by decide))
            have c91:w9.cell? ⟨w6.heap.size,3,none⟩=some (.int .i64 0):=Rdr.heap_cell hh9 3
            have f91:w9.frozen? ⟨w6.heap.size,3,none⟩=false:=Lib.frozen_of_heap hh9 3
            have a91:w9.cell? ⟨w6.heap.size + 1,3,none⟩=some (.pointer (some ⟨w6.heap.size,4,none⟩)):=Rdr.heap_cell ha9 3
            have hz9:w6.heap.size + 1<w9.heap.size:=Rdr.heap_lt ha9
            clear hq hr9 hk9 hh9 ha9 HR8 HK8 c81 f81 a81 HA8
            dsimp only at *
            repeat' (first|go_values|go_skip|go_guarded|(with_reducible refine wg ?_)|go_step|go_upon)
            rw [rounds_succ]
            repeat' (first|go_values|go_skip|go_guarded|(with_reducible refine wg ?_)|go_step|go_upon)
            refine (Rdr.any (w.heap.size + 1) st9 _ HR9.out).mono ?_
            rintro ev w10 ⟨rfl,hr10,hk10⟩
            generalize hq:Pl.numS 65536 st9=q at *
            obtain ⟨x4,st10⟩:=q
            have HQ10:=hU hq
            have hh10:=kept_heap hk10 (set_heap HH9.out) hx6
            have ha10:=kept_heap hk10 ((Rdr.heap_set_ne (j:=3) (x:=.int .i64 x3) (by omega)).trans HA9.out) (by omega)
            have HK10:=hU ((HK9.out.set (j:=3) (v:=.int .i64 x3) hz6).trans (KU.of hk10 (by simp [World.setCell];omega)))
            have HH10:=hU hh10
            have HA10:=hU ha10
            have HR10:=hU (rd_set (j:=4) (v:=.int .i64 x4) hr10 hh10 (by decide) (by decide))
            have c101:w10.cell? ⟨w6.heap.size,4,none⟩=some (.int .i64 0):=Rdr.heap_cell hh10 4
            have f101:w10.frozen? ⟨w6.heap.size,4,none⟩=false:=Lib.frozen_of_heap hh10 4
            have hz10:w6.heap.size + 1<w10.heap.size:=Rdr.heap_lt ha10
            clear hq hr10 hk10 hh10 ha10 HR9 HK9 c91 f91 a91 HA9
            dsimp only at *
            repeat' (first|go_values|go_skip|go_guarded|(with_reducible refine wg ?_)|go_step|go_upon)
            rw [rounds_succ]
            have hB:(w10.setCell ⟨w6.heap.size,4,none⟩ (.int .i64 x4)).heap[w6.heap.size]? =some (.cells #[.int .i64 x0,.int .i64 x1,.int .i64 x2,.int .i64 x3,.int .i64 x4] 101 (0,0)):=by
             rw [set_heap HH10.out];rfl
            have hF6:=full_keep HF.out (HK10.out.set (j:=4) (v:=.int .i64 x4) hz6) HR10.out
            generalize hW6:w10.setCell ⟨w6.heap.size,4,none⟩ (.int .i64 x4)=W6 at *
            have hzW:w6.heap.size<W6.heap.size:=Rdr.heap_lt hB
            have hpc:W6.cell? ⟨w.heap.size + 1 + 1,3,none⟩=some v4:=Rdr.heap_cell hF6.pln 3
            have hpf:W6.frozen? ⟨w.heap.size + 1 + 1,3,none⟩=false:=Lib.frozen_of_heap hF6.pln 3
            have b0:W6.cell? ⟨w6.heap.size,0,none⟩=some (.int .i64 x0):=Rdr.heap_cell hB 0
            have b1:W6.cell? ⟨w6.heap.size,1,none⟩=some (.int .i64 x1):=Rdr.heap_cell hB 1
            have b2:W6.cell? ⟨w6.heap.size,2,none⟩=some (.int .i64 x2):=Rdr.heap_cell hB 2
            have b3:W6.cell? ⟨w6.heap.size,3,none⟩=some (.int .i64 x3):=Rdr.heap_cell hB 3
            have b4:W6.cell? ⟨w6.heap.size,4,none⟩=some (.int .i64 x4):=Rdr.heap_cell hB 4
            obtain ⟨g,cap,W',hrun,ho',hg',hgg,hgl⟩:=append_cells (P:=Tryz.prog) (t:=25) (ty:=25) Tryz.underlying25 infoChan rfl (by decide) (W:=W6) (x:=#[.int .i64 x0,.int .i64 x1,.int .i64 x2,.int .i64 x3,.int .i64 x4]) hF6.chans.1 (by intro u hu;simp at hu;rcases hu with rfl|rfl|rfl|rfl|rfl <;> rfl) rfl (by omega) (by omega) (by omega)
            have hp':Pln w v1 fr v3 v4 W':=((grow_store (x:=v1) (j:=0) hF6 hF6.chans.1 hg').2.1 _ _ _ hF6.pln (by decide)).trans hF6.pln
            have hpc':W'.cell? ⟨w.heap.size + 1 + 1,3,none⟩=some v4:=Rdr.heap_cell hp' 3
            have hpf':W'.frozen? ⟨w.heap.size + 1 + 1,3,none⟩=false:=Lib.frozen_of_heap hp' 3
            have HN:=hU (full_chan (r:=[x0,x1,x2,x3,x4]) hF6 hg' rfl ho')
            have HRUN:=hU hrun
            clear hF6 hB HK10 HR10 c101 f101 ho' hg' hrun hp'
            repeat' (first|(at_builtin;refine wpList_append_run _ rfl _ _ _ _ rfl _ _ rfl rfl _ _ HRUN.out ?_)|go_values|go_skip|go_guarded|(with_reducible refine wg ?_)|go_step|go_upon)
            have hk:Cn - i=Cn - (i + 1) + 1:=by omega
            have hq:=HEQ.out
            rw [hk,step5 _ HQ6.out HQ7.out HQ8.out HQ9.out HQ10.out] at hq
            exact ⟨⟨i + 1,st10,_,cs ++ [[x0,x1,x2,x3,x4]],by omega,by simp,by simp [hpl],by subst hpl;exact HN.out,by rw [hq];simp⟩,by simp [intOf];omega⟩
          · obtain rfl:i=Cn:=by omega
            have hq:=HEQ.out
            rw [Nat.sub_self] at hq
            have HQC:=hU (show Pl.rowsS 5 i st5=(cs,st) by rw [hq];simp [Pl.rowsS])
            clear hq HEQ hi hlt hnl hpl
            have HEND:=hU (ends HQ1.out HQR.out HQ3.out HQ4.out HQW.out HQ5.out HQC.out)
            clear HQ1 HQR HQ3 HQ4 HQW HQ5 HQC
            repeat' (first|go_values|go_skip|go_guarded|(with_reducible refine wg ?_)|go_step|go_upon)
            refine (Rdr.errno (w.heap.size + 1) st _ HF.out.rd (HG.out wr HF.out.bel)).mono ?_
            rintro ev w8 ⟨rfl,hb8⟩
            dsimp only at *
            have hr8:Res w w8:=(hb8.block _ (Rdr.heap_lt HF.out.res)).trans HF.out.res
            have hp8:Pln w v1 fr v3 v4 w8:=(hb8.block _ (Rdr.heap_lt HF.out.pln)).trans HF.out.pln
            have r0:w8.cell? ⟨w.heap.size,0,none⟩=some (.slice none 0 0):=Rdr.heap_cell hr8 0
            have r1:w8.cell? ⟨w.heap.size,1,none⟩=some (.int .i64 0):=Rdr.heap_cell hr8 1
            have r2:w8.cell? ⟨w.heap.size,2,none⟩=some (.slice none 0 0):=Rdr.heap_cell hr8 2
            have r3:w8.cell? ⟨w.heap.size,3,none⟩=some (.slice none 0 0):=Rdr.heap_cell hr8 3
            have q0:w8.frozen? ⟨w.heap.size,0,none⟩=false:=Lib.frozen_of_heap hr8 0
            have q1:w8.frozen? ⟨w.heap.size,1,none⟩=false:=Lib.frozen_of_heap hr8 1
            have q2:w8.frozen? ⟨w.heap.size,2,none⟩=false:=Lib.frozen_of_heap hr8 2
            have q3:w8.frozen? ⟨w.heap.size,3,none⟩=false:=Lib.frozen_of_heap hr8 3
            have p0:w8.cell? ⟨w.heap.size + 1 + 1,0,none⟩=some v1:=Rdr.heap_cell hp8 0
            have p1:w8.cell? ⟨w.heap.size + 1 + 1,1,none⟩=some (.int .i64 fr):=Rdr.heap_cell hp8 1
            have p2:w8.cell? ⟨w.heap.size + 1 + 1,2,none⟩=some v3:=Rdr.heap_cell hp8 2
            have p3:w8.cell? ⟨w.heap.size + 1 + 1,3,none⟩=some v4:=Rdr.heap_cell hp8 3
            have z8:w.heap.size + 1 + 1<w8.heap.size:=Rdr.heap_lt hp8
            have HB8:=hU (HF.out.bel.trans (hb8.mono HF.out.bel.size))
            have HPA:=hU ((plan_at HF.out).below hb8)
            obtain ⟨a1,n1,rfl⟩:=ownsRow_slice HF.out.parts.1
            obtain ⟨a3,n3,rfl⟩:=ownsRow_slice HF.out.wins
            obtain ⟨a4,n4,rfl⟩:=ownsRow_slice HF.out.chans.1
            rcases fin_of HF.out.rd ⟨ps,fr,rs.map (·.2),cs⟩ with ⟨he,hfin⟩|⟨he,hfin⟩
            · rw [he]
              rw [hfin] at HEND
              have HR8:=hU hr8
              have HP8:=hU hp8
              have HBB:=hU hb8
              clear hr8 hp8 hb8 he hfin
              repeat' (first|go_values|go_skip|go_guarded|(with_reducible refine wg ?_)|go_step|go_upon)
              refine (Plan.Check _ ⟨ps,fr,rs.map (·.2),cs⟩ _ HPA.out (by show fr≤_;omega)).mono ?_
              rintro ev w9 ⟨rfl,hb9⟩
              have hr8:=HR8.out
              have hp8:=HP8.out
              have hb8:=HBB.out
              have hr9:Res w w9:=(hb9.block _ (Rdr.heap_lt hr8)).trans hr8
              have hp9:Pln w _ fr _ _ w9:=(hb9.block _ (Rdr.heap_lt hp8)).trans hp8
              have s0:w9.cell? ⟨w.heap.size,0,none⟩=some (.slice none 0 0):=Rdr.heap_cell hr9 0
              have s1:w9.cell? ⟨w.heap.size,1,none⟩=some (.int .i64 0):=Rdr.heap_cell hr9 1
              have s2:w9.cell? ⟨w.heap.size,2,none⟩=some (.slice none 0 0):=Rdr.heap_cell hr9 2
              have s3:w9.cell? ⟨w.heap.size,3,none⟩=some (.slice none 0 0):=Rdr.heap_cell hr9 3
              have f0:w9.frozen? ⟨w.heap.size,0,none⟩=false:=Lib.frozen_of_heap hr9 0
              have f1:w9.frozen? ⟨w.heap.size,1,none⟩=false:=Lib.frozen_of_heap hr9 1
              have f2:w9.frozen? ⟨w.heap.size,2,none⟩=false:=Lib.frozen_of_heap hr9 2
              have f3:w9.frozen? ⟨w.heap.size,3,none⟩=false:=Lib.frozen_of_heap hr9 3
              have g0:w9.cell? ⟨w.heap.size + 1 + 1,0,none⟩=some _:=Rdr.heap_cell hp9 0
              have g1:w9.cell? ⟨w.heap.size + 1 + 1,1,none⟩=some (.int .i64 fr):=Rdr.heap_cell hp9 1
              have g2:w9.cell? ⟨w.heap.size + 1 + 1,2,none⟩=some _:=Rdr.heap_cell hp9 2
              have g3:w9.cell? ⟨w.heap.size + 1 + 1,3,none⟩=some _:=Rdr.heap_cell hp9 3
              have z9:w.heap.size + 1 + 1<w9.heap.size:=Rdr.heap_lt hp9
              have HB9:=hU (HB8.out.trans (hb9.mono HB8.out.size))
              have HB89:=hU (hb8.trans (hb9.mono hb8.size))
              have HPL:=hU (plan_set HF.out hb8 hb9)
              have HR9:=hU hr9
              clear hr8 hp8 hb8 hr9 hp9 hb9 HR8 HP8 HBB r0 r1 r2 r3 q0 q1 q2 q3 p0 p1 p2 p3
              by_cases hc:Pl.check ⟨ps,fr,rs.map (·.2),cs⟩=0
              · have HTK:=hU (took_ok hp hrest HEND.out hc)
                rw [hc]
                dsimp only
                repeat' (first|go_values|go_skip|go_guarded|(with_reducible refine wg ?_)|go_step|go_upon)
                (try simp only [Exit.inBlock,Exit.then]);refine bodyPost_ret (res_run4 HR9.out rfl rfl _ _ _ _) rfl ?_
                exact ⟨_,_,rfl,bel_set4 HB9.out _ _ _ _,.inl ⟨rfl,_,HTK.out,HPL.out _ _ _ _⟩⟩
              · have HTK:=hU (took_bad hp hrest HEND.out hc)
                generalize Pl.check ⟨ps,fr,rs.map (·.2),cs⟩=e at *
                dsimp only
                repeat' (first|go_values|go_skip|go_guarded|(with_reducible refine wg ?_)|go_step|go_upon)
                (try simp only [Exit.inBlock,Exit.then]);refine bodyPost_ret (res_run4 HR9.out rfl rfl _ _ _ _) rfl ?_
                exact ⟨_,_,rfl,bel_set4 HB9.out _ _ _ _,.inr ⟨hc,rfl,HTK.out⟩⟩
            · rw [hfin] at HEND
              generalize Rdr.errnoV st=e at *
              have HTK:=hU (took_err hp hrest HEND.out)
              have HR8:=hU hr8
              clear hr8 hp8 HF hb8 hfin
              repeat' (first|go_values|go_skip|go_guarded|(with_reducible refine wg ?_)|go_step|go_upon)
              (try simp only [Exit.inBlock,Exit.then]);refine bodyPost_ret (res_run4 HR8.out rfl rfl _ _ _ _) rfl ?_
              exact ⟨_,_,rfl,bel_set4 HB8.out _ _ _ _,.inr ⟨he,rfl,HTK.out⟩⟩
 · go_enter Tryz.func9,Tryz.ntmps9
   repeat' (first|go_values|go_skip|go_guarded|(with_reducible refine wg ?_)|go_step|go_upon)
   refine (cut_no s _ hs hp).mono ?_
   rintro ev w1 ⟨rfl,rfl⟩
   dsimp only
   repeat' (first|go_values|go_skip|go_guarded|(with_reducible refine wg ?_)|go_step|go_upon)
   (try simp only [Exit.inBlock,Exit.then]);refine bodyPost_ret (res_run (b:=w.heap.size) rfl rfl (Rdr.heap_cell (Rdr.heap_new w _) 0) (Rdr.heap_cell (Rdr.heap_new w _) 1) (Rdr.heap_cell (Rdr.heap_new w _) 2) (Rdr.heap_cell (Rdr.heap_new w _) 3)) rfl ?_
   exact ⟨_,_,rfl,(Below.refl _ _).alloc (Nat.le_refl _) _,.inr ⟨by decide,rfl,took_no hp⟩⟩
end Tk
end Go.Proofs.YthgehdghihbiaaaGreatDoor
