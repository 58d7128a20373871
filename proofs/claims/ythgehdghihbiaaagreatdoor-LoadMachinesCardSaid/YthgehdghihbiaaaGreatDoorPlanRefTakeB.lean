/- transomref05.Take: what the call has made, and how it stays while it reads on. No condition. -/
import Derived.Test.YthgehdghihbiaaaGreatDoorPlanRefCounted
set_option linter.unusedVariables false
set_option linter.unusedSimpArgs false
namespace Go.Proofs.YthgehdghihbiaaaGreatDoor
open Go.RowKit
namespace RfT
open Rdr Tk
abbrev Pln1 (w:World) (v1:Value) (fr:Int) (v3 v4:Value) (W:World):Prop:=W.heap[w.heap.size + 1]? =some (.cells #[v1,.int .i64 fr,v3,v4] 27 (0,0))
def RC (b:Nat) (st:Pl.St) (W:World):Prop:=∃ a n c rest bad,W.heap[b]? =some (.cells #[.slice a n c,.string rest,.int .i64 bad] 117 (0,0))∧PS st rest bad
theorem rc_stay {b:Nat} {st:Pl.St} {W W':World} (h:RC b st W) (hs:∀ (k:Nat) (c:Array Value),W.heap[k]? =some (.cells c 117 (0,0))→W'.heap[k]? =W.heap[k]?):RC b st W':=by
 obtain ⟨a,n,c,rest,bad,h0,h1⟩:=h
 exact ⟨a,n,c,rest,bad,(hs _ _ h0).trans h0,h1⟩
structure Fr (w:World) (b:Nat) (st:Pl.St) (v1 v3 v4:Value) (ps:List (List Int)) (fr:Int) (rs:List (Value × List (List Int))) (cs:List (List Int)) (W:World):Prop where
 rd:RC b st W
 res:Res w W
 pln:Pln1 w v1 fr v3 v4 W
 bel:Below w.heap.size w W
 parts:OwnI W w.heap.size 96 4 v1 ps
 wins:W.ownsRow w.heap.size 97 1 v3 rs.length (rs.map (·.1))
 rows:∀ x ∈ rs,∃ B,OwnI W B 99 3 x.1 x.2
 chans:OwnI W w.heap.size 101 5 v4 cs
theorem fr_keep {w W W':World} {b b':Nat} {st st':Pl.St} {v1 v3 v4:Value} {ps cs:List (List Int)} {fr:Int} {rs:List (Value × List (List Int))} (h:Fr w b st v1 v3 v4 ps fr rs cs W) (hb:Below w.heap.size w W') (hr:RC b' st' W')
 (hs:∀ (k:Nat) (c:Array Value) (T:TypeId),W.heap[k]? =some (.cells c T (0,0))→T ≠ 117→W'.heap[k]? =W.heap[k]?):Fr w b' st' v1 v3 v4 ps fr rs cs W':=by
 refine ⟨hr,(hs _ _ _ h.res (by decide)).trans h.res,(hs _ _ _ h.pln (by decide)).trans h.pln,hb,own_stay h.parts (fun k c hc=> hs k c _ hc (by decide)),?_,fun x hx=> ?_,own_stay h.chans (fun k c hc=> hs k c _ hc (by decide))⟩
 · exact ownsRow_same h.wins (fun g hg=> by obtain ⟨_,_,cur,hc⟩:=ownBlock_lt h.wins hg;exact hs g cur _ hc (by decide))
 · obtain ⟨B,hx⟩:=h.rows x hx
   exact ⟨B,own_stay hx (fun k c hc=> hs k c _ hc (by decide))⟩
theorem fr_below {w W W':World} {b:Nat} {st:Pl.St} {v1 v3 v4:Value} {ps cs:List (List Int)} {fr:Int} {rs:List (Value × List (List Int))} (h:Fr w b st v1 v3 v4 ps fr rs cs W) (hb:Below W.heap.size W W'):Fr w b st v1 v3 v4 ps fr rs cs W':=
 fr_keep h (h.bel.trans (hb.mono h.bel.size)) (rc_stay h.rd (fun k c hc=> hb.block k (heap_lt hc))) (fun k c T hc _=> hb.block k (heap_lt hc))
theorem fr_set {w W:World} {b:Nat} {st st':Pl.St} {v1 v3 v4:Value} {ps cs:List (List Int)} {fr:Int} {rs:List (Value × List (List Int))} (h:Fr w b st v1 v3 v4 ps fr rs cs W) (hb:w.heap.size≤b) {a:Option Addr} {n c:Nat} {rest:ByteArray} {bad:Int} (hp:PS st' rest bad):
 Fr w b st' v1 v3 v4 ps fr rs cs (((W.setCell ⟨b,0,none⟩ (.slice a n c)).setCell ⟨b,1,none⟩ (.string rest)).setCell ⟨b,2,none⟩ (.int .i64 bad)):=by
 obtain ⟨a0,n0,c0,r0,b0,h0,_⟩:=h.rd
 refine fr_keep h (bel3 h.bel hb _ _ _) ⟨a,n,c,rest,bad,set3 h0,hp⟩ (fun k c T hc hT=> ?_)
 have hne:=ne_of_types hc h0 hT
 rw [heap_set_ne hne,heap_set_ne hne,heap_set_ne hne]
theorem fr_grow {w W W':World} {b:Nat} {st:Pl.St} {v1 v3 v4:Value} {ps cs:List (List Int)} {fr:Int} {rs:List (Value × List (List Int))} {E:TypeId} {sz n:Nat} {v x:Value} {xs:List Value} {o:Obj} {j:Nat}
 (h:Fr w b st v1 v3 v4 ps fr rs cs W) (hown:W.ownsRow w.heap.size E sz v n xs) (hg:(W.alloc o).grownBy W' v.ownBlock):
 (∀ (k:Nat) (c:Array Value) (T:TypeId),W.heap[k]? =some (.cells c T (0,0))→T ≠ E→k ≠ w.heap.size + 1→(W'.setCell ⟨w.heap.size + 1,j,none⟩ x).heap[k]? =W.heap[k]?)∧
 (∀ (k:Nat) (c:Array Value) (T:TypeId),W.heap[k]? =some (.cells c T (0,0))→T ≠ E→W'.heap[k]? =W.heap[k]?)∧Below w.heap.size w (W'.setCell ⟨w.heap.size + 1,j,none⟩ x):=by
 have h1:∀ (k:Nat) (c:Array Value) (T:TypeId),W.heap[k]? =some (.cells c T (0,0))→T ≠ E→W'.heap[k]? =W.heap[k]? :=by
  intro k c T hk hT
  have hlt:=heap_lt hk
  rw [hg.block k (by simp;omega) (by
   intro hh
   obtain ⟨_,_,cur,hcur⟩:=ownBlock_lt hown hh.symm
   exact ne_of_types hk hcur hT rfl),Lib.alloc_old W _ k hlt]
 have hgs:=hg.size
 simp at hgs
 have hz:=h.bel.size
 refine ⟨fun k c T hk hT hne=> (heap_set_ne hne).trans (h1 k c T hk hT),h1,h.bel.trans ⟨hg.os,hg.tape,hg.output,by simp [World.setCell];omega,fun k hk=> ?_⟩⟩
 rw [heap_set_ne (by omega),hg.block k (by simp;omega) (by
  intro hh
  obtain ⟨hge,_⟩:=ownBlock_lt hown hh.symm
  omega),Lib.alloc_old W _ k (by omega)]
theorem pln1_set {w W':World} {v1 v3 v4 x:Value} {fr:Int} (h:Pln1 w v1 fr v3 v4 W'):
 Pln1 w x fr v3 v4 (W'.setCell ⟨w.heap.size + 1,0,none⟩ x)∧Pln1 w v1 fr x v4 (W'.setCell ⟨w.heap.size + 1,2,none⟩ x)∧Pln1 w v1 fr v3 x (W'.setCell ⟨w.heap.size + 1,3,none⟩ x):=by
 refine ⟨?_,?_,?_⟩ <;> simp [Pln1,World.setCell,Array.getElem?_modify,h]
theorem fr_part {w W W':World} {b:Nat} {st:Pl.St} {v1 v3 v4 x:Value} {ps cs:List (List Int)} {fr:Int} {rs:List (Value × List (List Int))} {r:List Int} {o:Obj} (h:Fr w b st v1 v3 v4 ps fr rs cs W) (hg:(W.alloc o).grownBy W' v1.ownBlock) (hr:r.length=4)
 (ho:W'.ownsRow w.heap.size 96 4 x (ps.length + 1) (ps.flatMap intCells ++ intCells r)):Fr w b st x v3 v4 (ps ++ [r]) fr rs cs (W'.setCell ⟨w.heap.size + 1,0,none⟩ x):=by
 obtain ⟨h1,h2,h3⟩:=fr_grow (x:=x) (j:=0) h h.parts.1 hg
 have hp:Pln1 w v1 fr v3 v4 W':=(h2 _ _ _ h.pln (by decide)).trans h.pln
 have hne:∀ (k:Nat) (c:Array Value) (T:TypeId),W.heap[k]? =some (.cells c T (0,0))→T ≠ 96→T ≠ 27→(W'.setCell ⟨w.heap.size + 1,0,none⟩ x).heap[k]? =W.heap[k]? :=fun k c T hc hT hP=> h1 k c T hc hT (ne_of_types hc h.pln hP)
 refine ⟨rc_stay h.rd (fun k c hc=> hne k c _ hc (by decide) (by decide)),(h1 _ _ _ h.res (by decide) (by omega)).trans h.res,(pln1_set hp).1,h3,⟨?_,?_⟩,?_,fun y hy=> ?_,own_stay h.chans (fun k c hc=> hne k c _ hc (by decide) (by decide))⟩
 · have ho':W'.ownsRow w.heap.size 96 4 x (ps ++ [r]).length ((ps ++ [r]).flatMap intCells):=by simpa using ho
   refine ownsRow_same ho' (fun g hgo=> heap_set_ne ?_)
   obtain ⟨_,_,cur,hc⟩:=ownBlock_lt ho' hgo
   exact ne_of_types hc hp (by decide)
 · intro y hy
   rcases List.mem_append.mp hy with hy|hy
   · exact h.parts.2 y hy
   · obtain rfl:y=r:=by simpa using hy
     exact hr
 · exact ownsRow_same h.wins (fun g hgo=> by obtain ⟨_,_,cur,hc⟩:=ownBlock_lt h.wins hgo;exact hne g cur _ hc (by decide) (by decide))
 · obtain ⟨B,hx⟩:=h.rows y hy
   exact ⟨B,own_stay hx (fun k c hc=> hne k c _ hc (by decide) (by decide))⟩
theorem fr_chan {w W W':World} {b:Nat} {st:Pl.St} {v1 v3 v4 x:Value} {ps cs:List (List Int)} {fr:Int} {rs:List (Value × List (List Int))} {r:List Int} {o:Obj} (h:Fr w b st v1 v3 v4 ps fr rs cs W) (hg:(W.alloc o).grownBy W' v4.ownBlock) (hr:r.length=5)
 (ho:W'.ownsRow w.heap.size 101 5 x (cs.length + 1) (cs.flatMap intCells ++ intCells r)):Fr w b st v1 v3 x ps fr rs (cs ++ [r]) (W'.setCell ⟨w.heap.size + 1,3,none⟩ x):=by
 obtain ⟨h1,h2,h3⟩:=fr_grow (x:=x) (j:=3) h h.chans.1 hg
 have hp:Pln1 w v1 fr v3 v4 W':=(h2 _ _ _ h.pln (by decide)).trans h.pln
 have hne:∀ (k:Nat) (c:Array Value) (T:TypeId),W.heap[k]? =some (.cells c T (0,0))→T ≠ 101→T ≠ 27→(W'.setCell ⟨w.heap.size + 1,3,none⟩ x).heap[k]? =W.heap[k]? :=fun k c T hc hT hP=> h1 k c T hc hT (ne_of_types hc h.pln hP)
 refine ⟨rc_stay h.rd (fun k c hc=> hne k c _ hc (by decide) (by decide)),(h1 _ _ _ h.res (by decide) (by omega)).trans h.res,(pln1_set hp).2.2,h3,own_stay h.parts (fun k c hc=> hne k c _ hc (by decide) (by decide)),?_,fun y hy=> ?_,?_,?_⟩
 · exact ownsRow_same h.wins (fun g hgo=> by obtain ⟨_,_,cur,hc⟩:=ownBlock_lt h.wins hgo;exact hne g cur _ hc (by decide) (by decide))
 · obtain ⟨B,hx⟩:=h.rows y hy
   exact ⟨B,own_stay hx (fun k c hc=> hne k c _ hc (by decide) (by decide))⟩
 · have ho':W'.ownsRow w.heap.size 101 5 x (cs ++ [r]).length ((cs ++ [r]).flatMap intCells):=by simpa using ho
   refine ownsRow_same ho' (fun g hgo=> heap_set_ne ?_)
   obtain ⟨_,_,cur,hc⟩:=ownBlock_lt ho' hgo
   exact ne_of_types hc hp (by decide)
 · intro y hy
   rcases List.mem_append.mp hy with hy|hy
   · exact h.chans.2 y hy
   · obtain rfl:y=r:=by simpa using hy
     exact hr
theorem fr_win {w W W':World} {b:Nat} {st:Pl.St} {v1 v3 v4 x u:Value} {ps cs:List (List Int)} {fr:Int} {rs:List (Value × List (List Int))} {l:List (List Int)} {B:Nat} {o:Obj} (h:Fr w b st v1 v3 v4 ps fr rs cs W) (hg:(W.alloc o).grownBy W' v3.ownBlock) (hr:OwnI W B 99 3 u l)
 (ho:W'.ownsRow w.heap.size 97 1 x (rs.length + 1) (rs.map (·.1) ++ [u])):Fr w b st v1 x v4 ps fr (rs ++ [(u,l)]) cs (W'.setCell ⟨w.heap.size + 1,2,none⟩ x):=by
 obtain ⟨h1,h2,h3⟩:=fr_grow (x:=x) (j:=2) h h.wins hg
 have hp:Pln1 w v1 fr v3 v4 W':=(h2 _ _ _ h.pln (by decide)).trans h.pln
 have hne:∀ (k:Nat) (c:Array Value) (T:TypeId),W.heap[k]? =some (.cells c T (0,0))→T ≠ 97→T ≠ 27→(W'.setCell ⟨w.heap.size + 1,2,none⟩ x).heap[k]? =W.heap[k]? :=fun k c T hc hT hP=> h1 k c T hc hT (ne_of_types hc h.pln hP)
 refine ⟨rc_stay h.rd (fun k c hc=> hne k c _ hc (by decide) (by decide)),(h1 _ _ _ h.res (by decide) (by omega)).trans h.res,(pln1_set hp).2.1,h3,own_stay h.parts (fun k c hc=> hne k c _ hc (by decide) (by decide)),?_,fun y hy=> ?_,own_stay h.chans (fun k c hc=> hne k c _ hc (by decide) (by decide))⟩
 · have ho':W'.ownsRow w.heap.size 97 1 x (rs ++ [(u,l)]).length ((rs ++ [(u,l)]).map (·.1)):=by simpa using ho
   refine ownsRow_same ho' (fun g hgo=> heap_set_ne ?_)
   obtain ⟨_,_,cur,hc⟩:=ownBlock_lt ho' hgo
   exact ne_of_types hc hp (by decide)
 · rcases List.mem_append.mp hy with hy|hy
   · obtain ⟨B,hx⟩:=h.rows y hy
     exact ⟨B,own_stay hx (fun k c hc=> hne k c _ hc (by decide) (by decide))⟩
   · obtain rfl:y=(u,l):=by simpa using hy
     exact ⟨B,own_stay hr (fun k c hc=> hne k c _ hc (by decide) (by decide))⟩
theorem fr_frame {w W:World} {b:Nat} {st:Pl.St} {v1 v3 v4:Value} {ps cs:List (List Int)} {fr fr':Int} {rs:List (Value × List (List Int))} (h:Fr w b st v1 v3 v4 ps fr rs cs W):Fr w b st v1 v3 v4 ps fr' rs cs (W.setCell ⟨w.heap.size + 1,1,none⟩ (.int .i64 fr')):=by
 have hne:∀ (k:Nat) (c:Array Value) (T:TypeId),W.heap[k]? =some (.cells c T (0,0))→T ≠ 27→(W.setCell ⟨w.heap.size + 1,1,none⟩ (.int .i64 fr')).heap[k]? =W.heap[k]? :=fun k c T hc hP=> heap_set_ne (ne_of_types hc h.pln hP)
 refine ⟨rc_stay h.rd (fun k c hc=> hne k c _ hc (by decide)),(heap_set_ne (by omega)).trans h.res,?_,h.bel.trans ⟨rfl,rfl,rfl,by simp [World.setCell],fun k hk=> heap_set_ne (by omega)⟩,own_stay h.parts (fun k c hc=> hne k c _ hc (by decide)),?_,fun y hy=> ?_,own_stay h.chans (fun k c hc=> hne k c _ hc (by decide))⟩
 · have:=h.pln
   simp [Pln1,World.setCell,Array.getElem?_modify,this]
 · exact ownsRow_same h.wins (fun g hgo=> by obtain ⟨_,_,cur,hc⟩:=ownBlock_lt h.wins hgo;exact hne g cur _ hc (by decide))
 · obtain ⟨B,hx⟩:=h.rows y hy
   exact ⟨B,own_stay hx (fun k c hc=> hne k c _ hc (by decide))⟩
end RfT
end Go.Proofs.YthgehdghihbiaaaGreatDoor
