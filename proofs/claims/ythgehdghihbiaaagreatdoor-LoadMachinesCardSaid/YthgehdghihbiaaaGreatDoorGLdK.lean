/- The search of load.Pack for a string that is too long. No condition. strings.Builder's WriteByte and WriteString at this program: what the builder holds grows by what is written. Conditions: the builder is one of the call's own; the new length is below Go's own limit. load.Pack: images as bytes. No condition. The document's example of layer 20, walked. No condition. -/
import Derived.Test.YthgehdghihbiaaaGreatDoorProg
import Derived.Test.YthgehdghihbiaaaGreatDoorGLdP
import Derived.Shelf.Strings.Builder1
import Derived.RegionTactic
set_option linter.unusedVariables false
set_option maxRecDepth 100000
set_option maxHeartbeats 8000000
set_option linter.unusedSimpArgs false
namespace Go.Proofs.YthgehdghihbiaaaGreatDoor
open Go.RowKit
namespace Load
theorem long (s:ByteArray) (w:World) (hn:s.size≤9223372036854775807):Calls Tryz.prog 21 #[.string s] w (Is (.bool (decide (64<s.size))) w):=by
 go_enter Tryz.func21,Tryz.ntmps21
 go_wp2
 all_goals (go_ret;refine is_bool ?_)
 all_goals (simp;try omega)
theorem idxS (v:Value) (ws:List ByteArray) (w:World) (h:StrsAt w v ws):
 Calls Tryz.prog 44 #[v,.func (.func 21) #[] #[]] w (Found (ws.any (fun s=> decide (64<s.size))) w):=by
 obtain ⟨a,c,rfl,hn,hsz,hc⟩:=h
 have HC:=hU hc
 clear hc
 go_enter Tryz.func44,Tryz.ntmps44
 repeat' (first|go_values|go_skip|go_guarded|(with_reducible refine wg ?_)|go_step|go_upon)
 go_loopw [8] (fun v wr=> Seek ByteArray w ws (fun s=> decide (64<s.size)) v wr) (fun v _=> ws.length - (intOf v).toNat)
 case atStart=> exact ⟨0,Nat.zero_le _,rfl,Below.refl _ _,by rw [List.drop_zero]⟩
 case round=>
  obtain ⟨k,hk,rfl,hb,hany⟩:=hrel
  have HB:=hU hb
  have HA:=hU hany
  clear hb hany
  by_cases hlt:k<ws.length
  · obtain hnil|⟨b,off,rfl,hbl,hcell⟩:=HC.out
    · rw [hnil] at hlt;exact absurd hlt (Nat.not_lt_zero _)
    have hx:=hU (getD_some (d:=ByteArray.empty) hlt)
    have hn':(ws.getD k ByteArray.empty).size≤9223372036854775807:=hsz _ (List.mem_of_getElem? hx.out)
    have c0:=(HB.out.cell (p:=⟨b,off + k,none⟩) hbl).trans (hcell k hlt)
    generalize ws.getD k ByteArray.empty=r at c0 hx hn'
    clear hcell
    by_cases hp:64<r.size
    all_goals
     have HP:=hU hp
     repeat' (first|go_values|go_skip|go_guarded|(with_reducible refine wg ?_)|go_step|go_upon)
     refine (long r _ hn').mono ?_
     rintro e w1 ⟨rfl,rfl⟩
     dsimp only
     repeat' (first|go_values|go_skip|go_guarded|(with_reducible refine wg ?_)|go_step|go_upon)
    · go_ret
      have hB:=HB.out
      exact ⟨_,rfl,by rw [seek_hit hlt hx.out HA.out (by simpa using HP.out)];simp,bel⟩
    · have hB:=HB.out
      exact ⟨⟨k + 1,by omega,by go_num,bel,seek_miss hlt hx.out HA.out (by simpa using HP.out)⟩,by simp [intOf];omega⟩
  · repeat' (first|go_values|go_skip|go_guarded|(with_reducible refine wg ?_)|go_step|go_upon)
    go_ret
    have hB:=HB.out
    exact ⟨_,rfl,by rw [seek_end hlt HA.out];rfl,bel⟩
theorem contS (v:Value) (ws:List ByteArray) (w:World) (h:StrsAt w v ws):
 Calls Tryz.prog 20 #[v,.func (.func 21) #[] #[]] w (Gives (.bool (ws.any (fun s=> decide (64<s.size)))) w):=by
 go_enter Tryz.func20,Tryz.ntmps20
 repeat' (first|go_values|go_skip|go_guarded|(with_reducible refine wg ?_)|go_step|go_upon)
 refine (idxS v ws w h).mono ?_
 rintro e w1 ⟨r,rfl,hr,hb⟩
 have HR:=hU hr
 clear hr
 dsimp only
 repeat' (first|go_values|go_skip|go_guarded|(with_reducible refine wg ?_)|go_step|go_upon)
 all_goals go_ret
 all_goals exact gives_bool HR.out bel
end Load
end Go.Proofs.YthgehdghihbiaaaGreatDoor
namespace Go.Proofs.YthgehdghihbiaaaGreatDoor
open Go.RowKit
namespace Bld
theorem check_used (b:Nat) (w:World) (h0:w.cell? ⟨b,0,none⟩=some (.pointer (some ⟨b,0,none⟩))):
 Calls Tryz.prog 43 #[.pointer (some ⟨b,0,none⟩)] w fun e w'=> e=.returned (.tuple #[])∧w'=w:=by
 have hsz:(Tryz.prog.info? 78).map (·.size)=some 2:=by kernel_rfl
 obtain ⟨j,hj,_⟩:=Option.map_eq_some_iff.1 hsz
 clear hsz
 go_enter Tryz.func43,Tryz.ntmps43
 go_wp2
 rw [Lib.run_neq_ptr_same w _ Tryz.underlying75 hj]
 go_wp2
 go_end0
 exact ⟨rfl,rfl⟩
theorem check_fresh (b:Nat) (w:World) (h0:w.cell? ⟨b,0,none⟩=some (.pointer none)) (hsh:w.shape? b=some (78,2)) (hfz:w.frozen? ⟨b,0,none⟩=false):
 Calls Tryz.prog 43 #[.pointer (some ⟨b,0,none⟩)] w fun e w'=> e=.returned (.tuple #[])∧w'=w.setCell ⟨b,0,none⟩ (.pointer (some ⟨b,0,none⟩)):=by
 have hsz:(Tryz.prog.info? 78).map (·.size)=some 2:=by kernel_rfl
 obtain ⟨j,hj,hjs⟩:=Option.map_eq_some_iff.1 hsz
 clear hsz
 go_enter Tryz.func43,Tryz.ntmps43
 go_wp2
 rw [Lib.run_to_unsafe w ⟨b,0,none⟩ Tryz.underlying75 Tryz.underlying149 hj (by rw [hjs];decide) hsh (Nat.zero_lt_succ 1)]
 simp only [Result.andThen]
 rw [Oper.upon_value]
 go_wp2
 rw [run_callFunc_extern Tryz.func77 (by kernel_rfl) (by kernel_rfl) (by kernel_rfl) (e:=Extern.AbiNoEscape.same) (by kernel_rfl)]
 rw [Lib.run_noEscape]
 simp only [Result.andThen]
 rw [Oper.upon_value]
 go_wp2
 rw [Lib.run_from_unsafe w ⟨b,0,none⟩ Tryz.underlying149 Tryz.underlying75 hj hsh (by kernel_rfl)]
 simp only [Result.andThen]
 rw [Oper.upon_value]
 go_wp2
 go_end0
 exact ⟨rfl,rfl⟩
theorem check (B b:Nat) (bs:List Value) (w:World) (h:Lib.IsBuilder 78 5 B b bs w):
 Calls Tryz.prog 43 #[.pointer (some ⟨b,0,none⟩)] w fun e w'=> e=.returned (.tuple #[])∧(Lib.BuilderAt 78 5 B b (.pointer (some ⟨b,0,none⟩)) bs w'∧Below B w w'):=by
 rcases h with h|h
 · refine (check_fresh b w h.cell0 h.shape h.frozen0).mono ?_
   rintro e w' ⟨rfl,rfl⟩
   exact ⟨rfl,h.used _,(Below.refl B w).setCell (p:=⟨b,0,none⟩) h.1 _⟩
 · refine (check_used b w h.cell0).mono ?_
   rintro e w' ⟨rfl,rfl⟩
   exact ⟨rfl,h,Below.refl B _⟩
theorem infoByte:(Tryz.prog.info? 5).map (fun i=> (i.zero,i.size,i.bytes))=some (some (.int .u8 0),1,1):=by kernel_rfl
theorem neB5:78 ≠ 5:=by decide
theorem WriteByte (B b:Nat) (bs:List Value) (c:Int) (w:World) (h:Lib.IsBuilder 78 5 B b bs w) (hlen:bs.length + 1≤140737488355328) (hBw:B≤w.heap.size):
 Calls Tryz.prog 19 #[.pointer (some ⟨b,0,none⟩),.int .u8 c] w fun e w'=> e=.returned .nilIface∧(Lib.BuilderAt 78 5 B b (.pointer (some ⟨b,0,none⟩)) (bs ++ [.int .u8 c]) w'∧Below B w w'):=by
 obtain ⟨i0,hi,hz0,hz1,hz2⟩:=info_parts infoByte
 go_enter Tryz.func19,Tryz.ntmps19
 go_wp2_with (go_at_call 43;refine (check B b bs _ h).mono ?_)
 rintro e w1 ⟨rfl,h1,hb1⟩
 obtain ⟨hB,v,hbk,hown,hne⟩:=h1
 have c0:w1.cell? ⟨b,0,none⟩=some (.pointer (some ⟨b,0,none⟩)):=by rw [Lib.cell_of_heap hbk];rfl
 have c1:w1.cell? ⟨b,1,none⟩=some v:=by rw [Lib.cell_of_heap hbk];rfl
 go_wp2_with (at_builtin;refine wpList_append_own _ rfl _ _ 76 rfl B 5 i0 (.int .u8 0) 1 1 Tryz.underlying76 hi hz0 hz1 hz2 rfl (by decide) _ _ _ rfl (hown.alloc _) ⟨w1.heap.size,0,none⟩ 1 1 [.int .u8 c] rfl rfl ?c1 ?c2 ?c3 ?c4 ?c5 ?_)
 case c1=>
  intro j u hj
  match j,hj with
  |0,hj=> simp at hj;subst hj;simp [Addr.add]
 case c2=> intro u hu;simp at hu;subst hu;rfl
 case c3=> unfold maxLen;omega
 case c4=> omega
 case c5=> have:=hb1.size;simp;omega
 intro v' w2 hown' hgrow _
 have hlt:b<w1.heap.size:=by
  rcases Nat.lt_or_ge b w1.heap.size with h'|h'
  · exact h'
  · simp [Array.getElem?_eq_none h'] at hbk
 have hb2:w2.heap[b]? =some (.cells #[.pointer (some ⟨b,0,none⟩),v] 78 (0,0)):=by
  rw [hgrow.block b (by simp;omega) (fun e=> hne e.symm),Lib.alloc_old w1 _ b hlt]
  exact hbk
 have d0:w2.cell? ⟨b,0,none⟩=some (.pointer (some ⟨b,0,none⟩)):=by rw [Lib.cell_of_heap hb2];rfl
 have d1:w2.cell? ⟨b,1,none⟩=some v:=by rw [Lib.cell_of_heap hb2];rfl
 have f1:w2.frozen? ⟨b,1,none⟩=false:=Lib.frozen_of_heap hb2 1
 obtain ⟨g,cap,rfl⟩:∃ g cap,v'=.slice (some ⟨g,0,none⟩) (bs.length + 1) cap:=by
  rcases hown'.2 with ⟨_,h0⟩|⟨g,cap,cur,hv,_⟩
  · omega
  · exact ⟨g,cap,hv⟩
 go_wp2
 go_ret
 refine ⟨rfl,?_,?_⟩
 · exact Lib.BuilderAt.put (T:=78) (e:=5) hB hb2 (bs':=bs ++ [.int .u8 c]) (by simpa using hown') neB5
 · exact ((hb1.alloc (by have:=hb1.size;omega) _).grown hgrow (by have:=hb1.size;simp;omega) (fun k hk=> (hown.lt k hk).1)).setCell (p:=⟨b,1,none⟩) hB _
theorem WriteString (B b:Nat) (bs:List Value) (s:ByteArray) (w:World) (h:Lib.IsBuilder 78 5 B b bs w) (hlen:bs.length + s.size≤140737488355328) (hBw:B≤w.heap.size):
 Calls Tryz.prog 22 #[.pointer (some ⟨b,0,none⟩),.string s] w fun e w'=> e=.returned (.tuple #[.int .i64 s.size,.nilIface])∧(Lib.BuilderAt 78 5 B b (.pointer (some ⟨b,0,none⟩)) (bs ++ Lib.strCells s) w'∧Below B w w'):=by
 obtain ⟨i0,hi,hz0,hz1,hz2⟩:=info_parts infoByte
 go_enter Tryz.func22,Tryz.ntmps22
 go_wp2_with (go_at_call 43;refine (check B b bs _ h).mono ?_)
 rintro e w1 ⟨rfl,h1,hb1⟩
 obtain ⟨hB,v,hbk,hown,hne⟩:=h1
 have c0:w1.cell? ⟨b,0,none⟩=some (.pointer (some ⟨b,0,none⟩)):=by rw [Lib.cell_of_heap hbk];rfl
 have c1:w1.cell? ⟨b,1,none⟩=some v:=by rw [Lib.cell_of_heap hbk];rfl
 go_wp2_with (at_builtin;refine Lib.wpList_append_own_string _ rfl _ _ 76 9 rfl B 5 i0 Tryz.underlying76 Tryz.underlying9 hi hz0 hz1 hz2 _ _ _ rfl hown s rfl ?c3 ?c4 ?c5 ?_)
 case c3=> unfold maxLen;omega
 case c4=> omega
 case c5=> have:=hb1.size;omega
 intro v' w2 hown' hgrow _
 have hlt:b<w1.heap.size:=by
  rcases Nat.lt_or_ge b w1.heap.size with h'|h'
  · exact h'
  · simp [Array.getElem?_eq_none h'] at hbk
 have hb2:w2.heap[b]? =some (.cells #[.pointer (some ⟨b,0,none⟩),v] 78 (0,0)):=by
  rw [hgrow.block b hlt (fun e=> hne e.symm)]
  exact hbk
 have d0:w2.cell? ⟨b,0,none⟩=some (.pointer (some ⟨b,0,none⟩)):=by rw [Lib.cell_of_heap hb2];rfl
 have d1:w2.cell? ⟨b,1,none⟩=some v:=by rw [Lib.cell_of_heap hb2];rfl
 have f1:w2.frozen? ⟨b,1,none⟩=false:=Lib.frozen_of_heap hb2 1
 obtain ⟨ao,n',cap,rfl⟩:∃ ao n' cap,v'=.slice ao n' cap:=by
  rcases hown'.2 with ⟨hv,_⟩|⟨g,cap,cur,hv,_⟩
  · exact ⟨_,_,_,hv⟩
  · exact ⟨_,_,_,hv⟩
 go_wp2
 go_ret2
 refine ⟨rfl,?_,?_⟩
 · exact Lib.BuilderAt.put (T:=78) (e:=5) hB hb2 (bs':=bs ++ Lib.strCells s) (by simpa [Lib.strCells_length] using hown') neB5
 · exact (hb1.grown hgrow (by have:=hb1.size;omega) (fun k hk=> (hown.lt k hk).1)).setCell (p:=⟨b,1,none⟩) hB _
theorem String (B b:Nat) (l:List UInt8) (w:World) (h:Lib.IsBuilder 78 5 B b (Lib.byteCells l) w) (h0:l ≠ []):
 Calls Tryz.prog 23 #[.pointer (some ⟨b,0,none⟩)] w fun e w'=> e=.returned (.string ⟨l.toArray⟩)∧Below B w w':=by
 obtain ⟨p,hB,v,hbk,hown,hne⟩:∃ p,Lib.BuilderAt 78 5 B b p (Lib.byteCells l) w:=by
  rcases h with h|h
  · exact ⟨_,h⟩
  · exact ⟨_,h⟩
 have hl0:l.length ≠ 0:=by simpa using h0
 rw [Lib.byteCells_length] at hown
 obtain ⟨g,cap,cur,rfl,hbg,hg,hnc,hcm,hcs,htake⟩:∃ g cap cur,v=.slice (some ⟨g,0,none⟩) l.length cap∧B≤g∧w.heap[g]? =some (.cells cur 5 (0,0))∧l.length≤cap∧cap≤maxLen∧cur.size=cap * 1∧cur.toList.take (l.length * 1)=Lib.byteCells l:=by
  rcases hown.2 with ⟨_,hz⟩|⟨g,cap,cur,hv,r⟩
  · exact absurd hz hl0
  · exact ⟨g,cap,cur,hv,r⟩
 have c1:w.drew.cell? ⟨b,1,none⟩=some (.slice (some ⟨g,0,none⟩) l.length cap):=by
  have:w.drew.heap[b]? =some (.cells #[p,.slice (some ⟨g,0,none⟩) l.length cap] 78 (0,0)):=hbk
  rw [Lib.cell_of_heap this];rfl
 have hSD:(Builtin.unsafeSliceData_ #[76] 128 #[.slice (some ⟨g,0,none⟩) l.length cap]).run Tryz.prog w.drew=.ok (.pointer (some ⟨g,0,none⟩)) w.drew:=
  Lib.run_unsafeSliceData_row _ _ _ _ _ _ (by omega)
 have hUS:(Builtin.unsafeString_ #[128,3] 9 #[.pointer (some ⟨g,0,none⟩),.int .i64 l.length]).run Tryz.prog w.drew=.ok (.string ⟨l.toArray⟩) (w.drew.freeze ⟨g,0,none⟩ l.length):=by
  refine Lib.run_unsafeString_row w.drew 128 3 9 5 Tryz.underlying128 (by kernel_rfl) g cur.size (by have hg':w.drew.heap[g]? =some (.cells cur 5 (0,0)):=hg;simp [World.shape?,hg']) l h0 (by omega) (by unfold maxLen at hcm;omega) ?_
  intro j x hx
  have:=hown.cells (g:=g) rfl j (.int .u8 x.toNat) (by simp [Lib.byteCells,hx])
  exact this
 go_enter Tryz.func23,Tryz.ntmps23
 go_wp2
 go_region
 all_goals (go_wp2;go_ret;exact ⟨rfl,Lib.below_freeze (Below.drew (Below.refl B w)) (p:=⟨g,0,none⟩) hbg _⟩)
end Bld
end Go.Proofs.YthgehdghihbiaaaGreatDoor
namespace Go.Proofs.YthgehdghihbiaaaGreatDoor
open Go.RowKit
namespace Load
def Holds (w:World) (bs:List UInt8) (W:World):Prop:=Lib.IsBuilder 78 5 w.heap.size w.heap.size (Lib.byteCells bs) W∧Below w.heap.size w W∧w.heap.size<W.heap.size
theorem Holds.below {w W W':World} {bs:List UInt8} (h:Holds w bs W) (hb:Below W.heap.size W W'):Holds w bs W':=by
 refine ⟨?_,Below.to h.2.1 hb,Nat.lt_of_lt_of_le h.2.2 hb.size⟩
 rcases h.1 with h1|h1
 · exact .inl (builder_below h1 hb)
 · exact .inr (builder_below h1 hb)
theorem wr_byte (w W:World) (bs:List UInt8) (c:Int) (n:Nat) (h:Holds w bs W) (hn:n<256) (hc:c=n) (hl:bs.length≤1000000):
 Calls Tryz.prog 19 #[.pointer (some ⟨w.heap.size,0,none⟩),.int .u8 c] W fun e W'=> e=.returned .nilIface∧Holds w (bs ++ [Ld.byte n]) W':=by
 subst hc
 refine (Bld.WriteByte w.heap.size w.heap.size _ n W h.1 (by rw [byteCells_length];omega) h.2.1.size).mono ?_
 rintro e W' ⟨rfl,h1,hb⟩
 refine ⟨rfl,?_,h.2.1.trans hb,Nat.lt_of_lt_of_le h.2.2 hb.size⟩
 rw [byteCells_append,Ld.cells_byte n hn]
 exact .inr h1
theorem wr_str (w W:World) (bs:List UInt8) (s:ByteArray) (h:Holds w bs W) (hs:s.size≤1000000) (hl:bs.length≤1000000):
 Calls Tryz.prog 22 #[.pointer (some ⟨w.heap.size,0,none⟩),.string s] W fun e W'=> e=.returned (.tuple #[.int .i64 s.size,.nilIface])∧Holds w (bs ++ s.data.toList) W':=by
 refine (Bld.WriteString w.heap.size w.heap.size _ s W h.1 (by rw [byteCells_length];omega) h.2.1.size).mono ?_
 rintro e W' ⟨rfl,h1,hb⟩
 refine ⟨rfl,?_,h.2.1.trans hb,Nat.lt_of_lt_of_le h.2.2 hb.size⟩
 rw [byteCells_append,← Lib.strCells_eq]
 exact .inr h1
theorem to_str (w W:World) (bs:List UInt8) (h:Holds w bs W) (h0:bs ≠ []):
 Calls Tryz.prog 23 #[.pointer (some ⟨w.heap.size,0,none⟩)] W fun e W'=> e=.returned (.string ⟨bs.toArray⟩)∧Below w.heap.size w W':=by
 refine (Bld.String w.heap.size w.heap.size bs W h.1 h0).mono ?_
 rintro e W' ⟨rfl,hb⟩
 exact ⟨rfl,h.2.1.trans hb⟩
theorem holds_fresh (w:World):Holds w [] (w.alloc (.cells #[.pointer none,.slice none 0 0] 78)):=
 ⟨Lib.fresh_isBuilder _ _ w,bel,by simp⟩
def Rows (w:World) (l:List (List ByteArray)) (v:Value) (wr:World):Prop:=∃ k:Nat,k≤l.length∧v=.int .i64 k∧Holds w (Ld.rowsK l k) wr∧∀ r ∈ l.take k,Ld.okRow r=true
def Strs (w:World) (l:List (List ByteArray)) (k:Nat) (r:List ByteArray) (v:Value) (wr:World):Prop:=∃ j:Nat,j≤r.length∧v=.int .i64 j∧Holds w (Ld.rowsKJ l k r j) wr
theorem Pack (v:Value) (l:List (List ByteArray)) (w:World) (h:ImgsAt w v l):
 Calls Tryz.prog 8 #[v] w (Gives (.tuple #[.string (Ld.packS l),.int .i64 (Ld.packE l)]) w):=by
 obtain ⟨a,c,rfl,hn,hc⟩:=h
 have HC:=hU hc
 clear hc
 by_cases hl:l.length≤4
 · have hlI:¬ (4:Int)<l.length:=by omega
   go_enter Tryz.func8,Tryz.ntmps8
   repeat' (first|go_values|go_skip|go_guarded|(with_reducible refine wg ?_)|go_step|go_upon)
   refine (wr_byte w _ [] _ l.length (holds_fresh w) (by omega) rfl (by simp)).mono ?_
   rintro e w1 ⟨rfl,hw1⟩
   have H1:=hU hw1
   clear hw1
   dsimp only
   repeat' (first|go_values|go_skip|go_guarded|(with_reducible refine wg ?_)|go_step|go_upon)
   go_loopw [18] (fun v wr=> Rows w l v wr) (fun v _=> l.length - (intOf v).toNat)
   case atStart=> exact ⟨0,Nat.zero_le _,rfl,H1.out,by simp⟩
   case round=>
    clear H1
    obtain ⟨k,hk,rfl,hw,hok⟩:=hrel
    have HW:=hU hw
    have OK:=hU hok
    clear hw hok
    by_cases hlt:k<l.length
    · obtain hnil|⟨b,off,rfl,hbl,hcell⟩:=HC.out
      · rw [hnil] at hlt;exact absurd hlt (Nat.not_lt_zero _)
      obtain ⟨u,hu,hs⟩:=hcell k hlt
      have c0:=(HW.out.2.1.cell (p:=⟨b,off + k,none⟩) hbl).trans hu
      have HS:=hU (hs.below HW.out.2.1)
      have HS0:=hU hs
      obtain ⟨a1,n1,rfl,hn1,hz1,_⟩:=hs
      clear hcell hu
      have HR:Hid (∀ r,l.getD k []=r→l.getD k []=r):=hU (fun _ h=> h)
      generalize hr:l.getD k []=r at *
      have HRR:=hU hr
      clear hr HR
      by_cases h8:r.length≤8
      · have h8I:¬ (8:Int)<r.length:=by omega
        have h8b:decide ((8:Int)<r.length)=false:=by simpa using h8I
        have hwb:=HW.out.2.1
        by_cases hlong:r.any (fun s=> decide (64<s.size))=true
        · have HF:=hU (Ld.not_fits_row hlt (by rw [HRR.out];exact Ld.okRow_any hlong))
          repeat' (first|(go_at_call 20;refine (contS _ r _ HS.out).mono ?_;rintro e w2 ⟨rfl,hb2⟩;rw [hlong];dsimp only)|go_values|go_skip|go_guarded|(with_reducible refine wg ?_)|go_step|go_upon)
          go_ret2
          exact gives_of (two_str (Ld.packS_no HF.out) (Ld.packE_no HF.out)) bel
        · have hlong':r.any (fun s=> decide (64<s.size))=false:=by simpa using hlong
          have HO:=hU (Ld.okRow_yes h8 hlong')
          clear hlong
          repeat' (first|(go_at_call 20;refine (contS _ r _ HS.out).mono ?_;rintro e w2 ⟨rfl,hb2⟩;rw [hlong'];dsimp only)|go_values|go_skip|go_guarded|(with_reducible refine wg ?_)|go_step|go_upon)
          refine (wr_byte w _ (Ld.rowsK l k) _ r.length (HW.out.below hb2) (by omega) rfl (by have:=Ld.rowsK_length hl OK.out;omega)).mono ?_
          rintro e w3 ⟨rfl,hw3⟩
          have H3:=hU (show Holds w (Ld.rowsKJ l k r 0) w3 from hw3)
          clear hw3 hlong' h8b
          dsimp only
          repeat' (first|go_values|go_skip|go_guarded|(with_reducible refine wg ?_)|go_step|go_upon)
          obtain ⟨wo,rfl⟩:∃ wo:World,wo=w3:=⟨_,rfl⟩
          go_loopw [35] (fun v wr=> Strs w l k r v wr) (fun v _=> r.length - (intOf v).toNat)
          case atStart=> exact ⟨0,Nat.zero_le _,rfl,H3.out⟩
          case round=>
           clear H3 hb2 hwb c0
           obtain ⟨j,hj,rfl,hwj⟩:=hrel
           have HJ:=hU hwj
           clear hwj
           have HLE:=Ld.rowsKJ_length (j:=j) hl OK.out HO.out
           by_cases hjt:j<r.length
           · obtain ⟨a2,c2,he,_,_,hd2⟩:=HS0.out
             injection he with he1 _ _
             subst he1
             obtain hnil|⟨b2,off2,rfl,hbl2,hcell2⟩:=hd2
             · rw [hnil] at hjt;exact absurd hjt (Nat.not_lt_zero _)
             have d0:=(HJ.out.2.1.cell (p:=⟨b2,off2 + j,none⟩) hbl2).trans (hcell2 j hjt)
             have h64:=Ld.okRow_size HO.out hjt
             have HN:=hU (Ld.rowsKJ_next l k r j hjt)
             clear hcell2
             generalize hsv:r.getD j ByteArray.empty=sv at *
             have HSV:=hU hsv
             clear hsv
             repeat' (first|go_values|go_skip|go_guarded|(with_reducible refine wg ?_)|go_step|go_upon)
             refine (wr_byte w _ _ _ sv.size HJ.out (by omega) rfl (by omega)).mono ?_
             rintro e w4 ⟨rfl,hw4⟩
             have H4:=hU hw4
             clear hw4
             dsimp only
             repeat' (first|go_values|go_skip|go_guarded|(with_reducible refine wg ?_)|go_step|go_upon)
             refine (wr_str w _ _ sv H4.out (by omega) (by simp;omega)).mono ?_
             rintro e w5 ⟨rfl,hw5⟩
             have H5:=hU hw5
             clear hw5
             dsimp only
             repeat' (first|go_values|go_skip|go_guarded|(with_reducible refine wg ?_)|go_step|go_upon)
             exact ⟨⟨j + 1,by omega,by go_num,by rw [← HN.out];exact H5.out⟩,by simp [intOf];omega⟩
           · obtain rfl:j=r.length:=by omega
             repeat' (first|go_values|go_skip|go_guarded|(with_reducible refine wg ?_)|go_step|go_upon)
             have HE:=hU (Ld.rowsKJ_end l k hlt)
             have HT:=hU (Ld.take_ok hlt OK.out (by rw [HRR.out];exact HO.out))
             exact ⟨⟨k + 1,by omega,by go_num,by rw [← HE.out,HRR.out];exact HJ.out,HT.out⟩,by simp [intOf];omega⟩
      · have h8I:(8:Int)<r.length:=by omega
        have h8b:decide ((8:Int)<r.length)=true:=by simpa using h8I
        have HF:=hU (Ld.not_fits_row hlt (by rw [HRR.out];exact Ld.okRow_big h8))
        have hwb:=HW.out.2.1
        repeat' (first|go_values|go_skip|go_guarded|(with_reducible refine wg ?_)|go_step|go_upon)
        go_ret2
        exact gives_of (two_str (Ld.packS_no HF.out) (Ld.packE_no HF.out)) hwb
    · have hkl:k=l.length:=by omega
      have HF:=hU (Ld.fits_end hl (by rw [hkl] at OK;exact OK.out))
      repeat' (first|go_values|go_skip|go_guarded|(with_reducible refine wg ?_)|go_step|go_upon)
      refine (to_str w _ (Ld.rowsK l k) HW.out (by simp [Ld.rowsK])).mono ?_
      rintro e w2 ⟨rfl,hb2⟩
      dsimp only
      repeat' (first|go_values|go_skip|go_guarded|(with_reducible refine wg ?_)|go_step|go_upon)
      go_ret2
      exact gives_of (two_str (by rw [hkl];exact Ld.packS_yes HF.out) (Ld.packE_yes HF.out)) hb2
 · have hf:=hU (Ld.not_fits_long hl)
   have hlI:(4:Int)<l.length:=by omega
   go_enter Tryz.func8,Tryz.ntmps8
   repeat' (first|go_values|go_skip|go_guarded|(with_reducible refine wg ?_)|go_step|go_upon)
   all_goals go_ret2
   all_goals exact gives_of (two_str (Ld.packS_no hf.out) (Ld.packE_no hf.out)) bel
end Load
end Go.Proofs.YthgehdghihbiaaaGreatDoor
namespace Go.Proofs.YthgehdghihbiaaaGreatDoor
open Go.RowKit
namespace Ld
theorem row_inj {r s:List ByteArray} (h:row r=row s):r=s:=by
 have hinj:Function.Injective (fun b:ByteArray=> b.data.toList):=fun a b h=> ByteArray.ext (Array.ext' h)
 exact (List.map_inj_right (fun a b h=> hinj h)).1 h
theorem of_inj {l m:List (List ByteArray)} (h:of l=of m):l=m:=(List.map_inj_right (fun _ _ h=> row_inj h)).1 h
theorem strs_ne:∀ (n:Nat) (s:List UInt8) (c:Nat),strs n s=.error c→c ≠ 0
 |0,s,c,h=> by simp [strs] at h
 |n + 1,[],c,h=> by simp only [strs,Except.error.injEq] at h;omega
 |n + 1,x::t,c,h=> by
  simp only [strs] at h
  split at h
  · simp only [Except.error.injEq] at h;omega
  · split at h
    · simp only [Except.error.injEq] at h;omega
    · split at h
      · rename_i e he
        simp only [Except.error.injEq] at h
        subst h
        exact strs_ne n _ _ he
      · cases h
theorem rows_ne:∀ (n:Nat) (s:List UInt8) (c:Nat),rows n s=.error c→c ≠ 0
 |0,s,c,h=> by simp [rows] at h
 |n + 1,[],c,h=> by simp only [rows,Except.error.injEq] at h;omega
 |n + 1,x::t,c,h=> by
  simp only [rows] at h
  split at h
  · simp only [Except.error.injEq] at h;omega
  · split at h
    · rename_i e he
      simp only [Except.error.injEq] at h
      subst h
      exact strs_ne _ _ _ he
    · split at h
      · rename_i e he
        simp only [Except.error.injEq] at h
        subst h
        exact rows_ne n _ _ he
      · cases h
theorem error_ne {s:List UInt8} {c:Nat} (h:unpack s=.error c):c ≠ 0:=by
 match s,h with
 |[],h=> simp only [unpack,Except.error.injEq] at h;omega
 |x::t,h=>
  simp only [unpack] at h
  split at h
  · simp only [Except.error.injEq] at h;omega
  · match hr:rows x.toNat t,h with
    | .error e,h=>
      simp only [finish,Except.error.injEq] at h
      subst h
      exact rows_ne _ _ _ hr
    | .ok (q,v),h=>
      simp only [finish] at h
      split at h
      · cases h
      · simp only [Except.error.injEq] at h;omega
end Ld
namespace Load
theorem shownE:Ld.packE [[⟨#[97,98]⟩]]=0:=by decide +kernel
theorem shownS:Ld.packS [[⟨#[97,98]⟩]]=⟨#[1,1,2,97,98]⟩:=by decide +kernel
theorem imgs_ab (w:World):ImgsAt ((w.alloc (.cells #[.string ⟨#[97,98]⟩] 9)).alloc (.cells #[.slice (some ⟨w.heap.size,0,none⟩) 1 1] 43)) (.slice (some ⟨w.heap.size + 1,0,none⟩) 1 1) [[⟨#[97,98]⟩]]:=by
 refine ⟨_,_,rfl,by decide,.inr ⟨_,_,rfl,by simp,fun i hi=> ?_⟩⟩
 obtain rfl:i=0:=by simp at hi;omega
 refine ⟨.slice (some ⟨w.heap.size,0,none⟩) 1 1,by go_simp,_,_,rfl,by decide,?_,.inr ⟨_,_,rfl,by simp;omega,fun i hi=> ?_⟩⟩
 · intro s hs
   obtain rfl:s=⟨#[97,98]⟩:=by simpa using hs
   decide
 · obtain rfl:i=0:=by simp at hi;omega
   go_simp
theorem shown (w:World):Calls Tryz.prog 4 #[] w (Gives (.bool true) w):=by
 have HE:=hU shownE
 have HS:=hU shownS
 go_enter Tryz.func4,Tryz.ntmps4
 repeat' (first|go_values|go_skip|go_guarded|(with_reducible refine wg ?_)|go_step|go_upon|go_quiet (fail))
 refine (Pack _ _ _ (imgs_ab w)).mono ?_
 rintro e w2 ⟨rfl,hb2⟩
 rw [HE.out,HS.out]
 dsimp only
 repeat' (first|go_values|go_skip|go_guarded|(with_reducible refine wg ?_)|go_step|go_upon|go_quiet (fail))
 go_ret
 exact gives_bool rfl bel
end Load
end Go.Proofs.YthgehdghihbiaaaGreatDoor
