/- The reference's tables, turns, pipes and room at an empty guest. No condition. The reference's holes, room, table and turn at an empty guest. No condition. The reference's turn and room at an empty guest. No condition. transomref02.Make answers what the plain functions say. No condition. The reference's room taken at an empty guest; an image. No condition. The reference's new process at an empty guest. No condition. The reference's new process at an empty guest: where there is room, and where there is none. No condition. -/
import Derived.Test.YthgehdghihbiaaaGreatDoorKApp
import Derived.Lib.LazyBuf
set_option linter.unusedVariables false
set_option maxRecDepth 100000
set_option maxHeartbeats 8000000
set_option linter.unusedSimpArgs false
set_option maxRecDepth 100000
namespace Go.Proofs.YthgehdghihbiaaaGreatDoor
open Go.RowKit KR Kn RegT3
namespace Rf
theorem nbz {n:Nat} {w W:World} (h:Hid (Below n w W)):∃ m,W.heap.size=m∧w.heap.size≤m:=⟨_,rfl,h.out.size⟩
theorem nW {w W W':World} (hb:Below W.heap.size W W') (h:Hid (Below w.heap.size w W)):Hid (Below w.heap.size w W'):=hU (h.out.trans (hb.mono h.out.size))
theorem RPlace0 (n:Int) (w:World):Calls Tryz.prog 130 #[.slice none 0 0,.int .i64 n] w (Is (.int .i64 (-1)) w):=by
 go_enter Tryz.func130,Tryz.ntmps130
 repeat' (first|go_values|go_skip|go_guarded|(with_reducible refine wg ?_)|go_step|go_upon)
 obtain ⟨Wn,rfl⟩:∃ Wn,Wn=w:=⟨_,rfl⟩
 go_loopw [5] (fun iv wr=> iv=.int .i64 0∧wr=Wn) (fun _ _=> 0)
 case atStart=> exact ⟨rfl,rfl⟩
 case round=>
  obtain ⟨rfl,rfl⟩:=hrel
  have e1:decide ((0:Int)<0)=false:=by decide
  repeat' (first|go_values|go_skip|go_guarded|(with_reducible refine wg ?_)|go_step|go_upon)
  go_ret
  exact ⟨rfl,rfl⟩
theorem RAt0 (n:Int) (w:World):Calls Tryz.prog 129 #[.slice none 0 0,.int .i64 n] w (Is (.int .i64 (-1)) w):=by
 go_enter Tryz.func129,Tryz.ntmps129
 repeat' (first|go_values|go_skip|go_guarded|(with_reducible refine wg ?_)|go_step|go_upon)
 obtain ⟨Wn,rfl⟩:∃ Wn,Wn=w:=⟨_,rfl⟩
 go_loopw [5] (fun iv wr=> iv=.int .i64 0∧wr=Wn) (fun _ _=> 0)
 case atStart=> exact ⟨rfl,rfl⟩
 case round=>
  obtain ⟨rfl,rfl⟩:=hrel
  have e1:decide ((0:Int)<0)=false:=by decide
  repeat' (first|go_values|go_skip|go_guarded|(with_reducible refine wg ?_)|go_step|go_upon)
  go_ret
  exact ⟨rfl,rfl⟩
theorem RNext0 (w:World):Calls Tryz.prog 108 #[.slice none 0 0] w (Is (.int .i64 1) w):=by
 go_enter Tryz.func108,Tryz.ntmps108
 repeat' (first|go_values|go_skip|go_guarded|(with_reducible refine wg ?_)|go_step|go_upon)
 go_loopw [3,4] (fun mv iv wr=> mv=.int .i64 0∧iv=.int .i64 0∧wr=w) (fun _ _ _=> 0)
 case atStart=> exact ⟨rfl,rfl,rfl⟩
 case round=>
  obtain ⟨rfl,rfl,rfl⟩:=hrel
  have e1:decide ((0:Int)<0)=false:=by decide
  repeat' (first|go_values|go_skip|go_guarded|(with_reducible refine wg ?_)|go_step|go_upon)
  go_ret
  exact ⟨rfl,rfl⟩
theorem RCount0 (d:Int) (b:Bool) (by_:Int) (w:World):Calls Tryz.prog 128 #[.slice none 0 0,.agg #[.int .i64 d,.bool b],.int .i64 by_] w (Gives (.slice none 0 0) w):=by
 obtain ⟨W0,hW0,hb0,HE⟩:=nb1 (W:=w) (.cells #[.int .i64 d,.bool b] 215) rfl
 have HB:=hU hb0
 clear hb0
 go_enter Tryz.func128,Tryz.ntmps128
 repeat' (first|(rw [hW0];clear hW0)|go_values|go_skip|go_guarded|(with_reducible refine wg ?_)|go_step|go_upon)
 obtain ⟨Wn,rfl⟩:∃ Wn,Wn=W0:=⟨_,rfl⟩
 go_loopw [7,8] (fun lv iv wr=> lv=.slice none 0 0∧iv=.int .i64 0∧wr=Wn) (fun _ _ _=> 0)
 case atStart=> exact ⟨rfl,rfl,rfl⟩
 case round=>
  obtain ⟨rfl,rfl,rfl⟩:=hrel
  have e1:decide ((0:Int)<0)=false:=by decide
  repeat' (first|go_values|go_skip|go_guarded|(with_reducible refine wg ?_)|go_step|go_upon)
  go_ret
  exact gives_of rfl HB.out
def F0 (w:World) (cs:Array Value) (lv iv:Value) (W:World):Prop:=∃ i:Nat,i≤4∧lv=.slice none 0 0∧iv=.int .i64 i∧Hid (W.heap[w.heap.size]? =some (.cells cs 216 (0,0)))∧Hid (Below w.heap.size w W)
abbrev fds0:Array Value:=#[.int .i64 0,.bool false,.int .i64 0,.bool false,.int .i64 0,.bool false,.int .i64 0,.bool false]
theorem Rcount0 (by_:Int) (w:World):Calls Tryz.prog 110 #[.slice none 0 0,.agg fds0,.int .i64 by_] w (Gives (.slice none 0 0) w):=by
 obtain ⟨W0,hW0,hb0,HE⟩:=nb1 (W:=w) (.cells fds0 216) rfl
 have HB:=hU hb0
 clear hb0
 go_enter Tryz.func110,Tryz.ntmps110
 repeat' (first|(rw [hW0];clear hW0)|go_values|go_skip|go_guarded|(with_reducible refine wg ?_)|go_step|go_upon)
 go_loopw [0,7] (fun lv iv wr=> F0 w fds0 lv iv wr) (fun _ iv _=> 4 - (intOf iv).toNat)
 case atStart=> exact ⟨0,by decide,rfl,rfl,HE,HB⟩
 case round=>
  clear HE HB
  obtain ⟨i,hi,rfl,rfl,HE,HB⟩:=hrel
  obtain ⟨Wn,rfl⟩:∃ Wn,Wn=wr:=⟨_,rfl⟩
  have f0:Wn.cell? ⟨w.heap.size,0,none⟩=some (.int .i64 0):=hcell HE.out 0
  have f1:Wn.cell? ⟨w.heap.size,1,none⟩=some (.bool false):=hcell HE.out 1
  have f2:Wn.cell? ⟨w.heap.size,2,none⟩=some (.int .i64 0):=hcell HE.out 2
  have f3:Wn.cell? ⟨w.heap.size,3,none⟩=some (.bool false):=hcell HE.out 3
  have f4:Wn.cell? ⟨w.heap.size,4,none⟩=some (.int .i64 0):=hcell HE.out 4
  have f5:Wn.cell? ⟨w.heap.size,5,none⟩=some (.bool false):=hcell HE.out 5
  have f6:Wn.cell? ⟨w.heap.size,6,none⟩=some (.int .i64 0):=hcell HE.out 6
  have f7:Wn.cell? ⟨w.heap.size,7,none⟩=some (.bool false):=hcell HE.out 7
  by_cases hi4:i<4
  · have hcs:i=0∨i=1∨i=2∨i=3:=by omega
    rcases hcs with rfl|rfl|rfl|rfl
    all_goals repeat' (first|go_values|go_skip|go_guarded|(with_reducible refine wg ?_)|go_step|go_upon)
    all_goals
     refine (RCount0 0 false by_ _).mono ?_
     rintro er W1 ⟨rfl,hb⟩
     replace HE:=nB hb HE
     replace HB:Hid (Below w.heap.size w W1):=hU (HB.out.trans (hb.mono HB.out.size))
     dsimp only
     clear f0 f1 f2 f3 f4 f5 f6 f7
     repeat' (first|go_values|go_skip|go_guarded|(with_reducible refine wg ?_)|go_step|go_upon)
    · exact ⟨⟨1,by decide,rfl,by go_num,HE,HB⟩,by simp [intOf]⟩
    · exact ⟨⟨2,by decide,rfl,by go_num,HE,HB⟩,by simp [intOf]⟩
    · exact ⟨⟨3,by decide,rfl,by go_num,HE,HB⟩,by simp [intOf]⟩
    · exact ⟨⟨4,by decide,rfl,by go_num,HE,HB⟩,by simp [intOf]⟩
  · obtain rfl:i=4:=by omega
    repeat' (first|go_values|go_skip|go_guarded|(with_reducible refine wg ?_)|go_step|go_upon)
    go_ret
    exact gives_of rfl HB.out
theorem ones2H (n:Int):∀ u ∈ (Value.agg #[.int .i64 n,.slice none 0 0]).cells.toList,u.oneCell'=true:=by
 intro u hu
 simp only [Value.cells,List.mem_cons,List.not_mem_nil,or_false] at hu
 rcases hu with rfl|rfl <;> rfl
theorem RNew (n:Int) (w:World):Calls Tryz.prog 95 #[.int .i64 n] w (Gives (.tuple #[.agg #[.int .i64 (if n<0 then 0 else n),.slice none 0 0],.int .i64 (if n<0 then 1 else 0)]) w):=by
 obtain ⟨W0,hW0,hb0,HR⟩:=nb1 (W:=w) (.cells #[.int .i64 0,.slice none 0 0] 65) rfl
 have HB:=hU hb0
 clear hb0
 by_cases h:n<0
 · have e1:decide (n<0)=true:=by simp [h]
   rw [if_pos h,if_pos h]
   clear h
   go_enter Tryz.func95,Tryz.ntmps95
   repeat' (first
    |(rw [hW0];clear hW0)
    |(refine wpList_store (t:=65) (v:=.agg #[.int .i64 0,.slice none 0 0]) (off:=0) (new:=#[.int .i64 0,.slice none 0 0]) rfl rfl rfl rfl aggHeap.size HR.out rfl (show 0 + 2≤2 by decide) (ones2H 0) rfl ?_;intro Wn hp
      replace HB:=hU (Below.put HB.out hp (Nat.le_refl _))
      replace HR:=pA hp
      clear hp)
    |go_values|go_skip|go_guarded|(with_reducible refine wg ?_)|go_step|go_upon)
   (try simp only [Exit.inBlock,Exit.then]);refine bodyPost_ret (res_cell_tmp Tryz.results95 aggHeap rfl HR.out rfl) rfl ?_
   exact gives_of rfl HB.out
 · have e1:decide (n<0)=false:=by simp;omega
   rw [if_neg h,if_neg h]
   clear h
   go_enter Tryz.func95,Tryz.ntmps95
   repeat' (first
    |(rw [hW0];clear hW0)
    |(refine wpList_store (t:=65) (v:=.agg #[.int .i64 n,.slice none 0 0]) (off:=0) (new:=#[.int .i64 n,.slice none 0 0]) rfl rfl rfl rfl aggHeap.size HR.out rfl (show 0 + 2≤2 by decide) (ones2H n) rfl ?_;intro Wn hp
      replace HB:=hU (Below.put HB.out hp (Nat.le_refl _))
      replace HR:=pA hp
      clear hp)
    |go_values|go_skip|go_guarded|(with_reducible refine wg ?_)|go_step|go_upon)
   (try simp only [Exit.inBlock,Exit.then]);refine bodyPost_ret (res_cell_tmp Tryz.results95 aggHeap rfl HR.out rfl) rfl ?_
   exact gives_of rfl HB.out
theorem RRight0 (n:Int) (hn:0≤n) (w:World):Calls Tryz.prog 126 #[.agg #[.int .i64 n,.slice none 0 0]] w (Gives (.bool true) w):=by
 obtain ⟨W0,hW0,hb0,HE⟩:=nb1 (W:=w) (.cells #[.int .i64 n,.slice none 0 0] 65) rfl
 have HB:=hU hb0
 have e0:decide (n<0)=false:=by simp [hn]
 have f0:W0.cell? ⟨w.heap.size,0,none⟩=some (.int .i64 n):=hcell HE.out 0
 have f1:W0.cell? ⟨w.heap.size,1,none⟩=some (.slice none 0 0):=hcell HE.out 1
 clear hb0
 go_enter Tryz.func126,Tryz.ntmps126
 repeat' (first|(rw [hW0];clear hW0)|go_values|go_skip|go_guarded|(with_reducible refine wg ?_)|go_step|go_upon)
 obtain ⟨Wn,rfl⟩:∃ Wn,Wn=W0:=⟨_,rfl⟩
 go_loopw [3] (fun iv wr=> iv=.int .i64 0∧wr=Wn) (fun _ _=> 0)
 case atStart=> exact ⟨rfl,rfl⟩
 case round=>
  obtain ⟨rfl,rfl⟩:=hrel
  have e1:decide ((0:Int)<0)=false:=by decide
  repeat' (first|go_values|go_skip|go_guarded|(with_reducible refine wg ?_)|go_step|go_upon)
  go_ret
  exact gives_of rfl HB.out
theorem one_rdG {α:Type} {sz:Nat} {f:α→Array Value} {T:TypeId} {W:World} {n:Nat} {a:α} (h:W.heap[n]? =some (.cells (f a) T (0,0))):Rd sz f W (.slice (some ⟨n,0,none⟩) 1 1) [a]:=
 ⟨_,1,rfl,Nat.le_refl _,(show 1≤9223372036854775807 by decide),.inr ⟨n,0,rfl,hlt h,fun i x hx j u hj=> by
   match i,hx with
   |0,hx=>
    obtain rfl:=Option.some.inj hx
    rw [hcell h]
    simpa using hj⟩⟩
theorem ownB {α:Type} {E:TypeId} {sz B:Nat} {f:α→Array Value} {W W':World} {v:Value} {l:List α} (hb:Below W.heap.size W W') (h:Hid (KR.Own E sz f B W v l)):Hid (KR.Own E sz f B W' v l):=hU (ownsRow_below h.out hb)
def holes0 (n:Int):List Span:=if 0<n then [⟨0,n,0⟩] else []
def HoR (w:World) (n:Int) (lv av iv:Value) (W:World):Prop:=Hid (W.heap[w.heap.size]? =some (.cells #[.int .i64 n,.slice none 0 0] 65 (0,0)))∧Hid (Below w.heap.size w W)∧((lv=.slice none 0 0∧av=.int .i64 0∧iv=.int .i64 0)∨(iv=.int .i64 1∧Hid (KR.Own 256 3 Span.cells w.heap.size W lv (holes0 n))))
theorem RHoles0 (n:Int) (hn:0≤n) (hm:n≤9223372036854775807) (w:World):Calls Tryz.prog 127 #[.agg #[.int .i64 n,.slice none 0 0]] w (fun e w'=> ∃ v,e=.returned v∧KR.Own 256 3 Span.cells w.heap.size w' v (holes0 n)∧Below w.heap.size w w'):=by
 obtain ⟨W0,hW0,hb0,HE⟩:=nb1 (W:=w) (.cells #[.int .i64 n,.slice none 0 0] 65) rfl
 have HB:=hU hb0
 clear hb0
 go_enter Tryz.func127,Tryz.ntmps127
 repeat' (first|(rw [hW0];clear hW0)|(refine wpList_load (t:=65) (v:=.agg #[.int .i64 n,.slice none 0 0]) rfl rfl rfl (run_load_whole aggHeap HE.out rfl) ?_)|go_values|go_skip|go_guarded|(with_reducible refine wg ?_)|go_step|go_upon)
 refine (RRight0 n hn _).mono ?_
 rintro er Wn ⟨rfl,hb⟩
 replace HE:=nB hb HE
 replace HB:=nW hb HB
 clear hb
 dsimp only
 repeat' (first|go_values|go_skip|go_guarded|(with_reducible refine wg ?_)|go_step|go_upon)
 go_loopw [4,5,6] (fun lv av iv wr=> HoR w n lv av iv wr) (fun _ _ iv _=> 1 - (intOf iv).toNat)
 case atStart=> exact ⟨HE,HB,.inl ⟨rfl,rfl,rfl⟩⟩
 case round=>
  clear HE HB
  obtain ⟨HE,HB,hrel⟩:=hrel
  obtain ⟨Wn,rfl⟩:∃ Wn,Wn=wr:=⟨_,rfl⟩
  have f0:Wn.cell? ⟨w.heap.size,0,none⟩=some (.int .i64 n):=hcell HE.out 0
  have f1:Wn.cell? ⟨w.heap.size,1,none⟩=some (.slice none 0 0):=hcell HE.out 1
  rcases hrel with ⟨rfl,rfl,rfl⟩|⟨rfl,HO⟩
  · have d1:decide ((0:Int)≤0)=true:=by decide
    have d2:decide ((0:Int)<0)=false:=by decide
    have d3:IntKind.i64.wrap n=n:=by rw [IntKind.wrap_i64];omega
    have HO0:Hid (KR.Own 256 3 Span.cells w.heap.size Wn (.slice none 0 0) []):=hU (KR.Own.nil _ _ _ _ _)
    by_cases h0:0<n
    · have d4:decide (0<n)=true:=by simp [h0]
      have hh:holes0 n=[⟨0,n,0⟩]:=by unfold holes0;rw [if_pos h0]
      obtain ⟨g5,hab,hg5⟩:=nbz HB
      obtain ⟨W1,hW1,hba,H5⟩:=nb1 (W:=Wn) (.cells (Span.cells ⟨0,n,0⟩) 256) hab
      have HR1:=nW hba HB
      obtain ⟨v2,W2,hrun,hv2,hgr⟩:=apRow (P:=Tryz.prog) (t:=63) (ty:=63) (bytes:=24) szSpan (by decide) Tryz.underlying63 (by kernel_rfl) onesSpan ((ownB hba HO0).out) (one_rdG H5.out) HR1.out.size (by show 0 + 1≤maxLen;decide) (by show (0 + 1) * 24≤140737488355328;decide)
      obtain ⟨htn,hbl⟩:=tn_of ((ownB hba HO0).out) HR1.out.size hgr
      have HRUN:=hU hrun
      have HO2:=hU hv2
      have HR2:=hU (HR1.out.trans hbl)
      have HE2:=tnB htn (nB hba HE)
      clear hrun hv2 hgr hba htn hbl H5 HR1
      have k1:W2.cell? ⟨w.heap.size,1,none⟩=some (.slice none 0 0):=hcell HE2.out 1
      clear h0
      repeat' (first
       |(refine wpList_buildSlice_one (v:=.agg (Span.cells ⟨0,n,0⟩)) rfl _ rfl rfl Tryz.underlying63 aggSpan.size zeroSpan rfl (by decide) (by decide) rfl ?_;(try simp only [Value.cells]);rw [hab,hW1];clear hab hW1)
       |(at_builtin;refine wpList_append_run _ rfl _ _ _ _ rfl _ _ rfl rfl _ _ HRUN.out ?_)
       |go_values|go_skip|go_guarded|(with_reducible refine wg ?_)|go_step|go_upon)
      exact ⟨⟨HE2,HR2,.inr ⟨by go_num,by rw [hh];exact HO2⟩⟩,by simp [intOf]⟩
    · have d4:decide (0<n)=false:=by simp;omega
      have hh:holes0 n=[]:=by unfold holes0;rw [if_neg h0]
      clear h0
      repeat' (first|go_values|go_skip|go_guarded|(with_reducible refine wg ?_)|go_step|go_upon)
      exact ⟨⟨HE,HB,.inr ⟨by go_num,by rw [hh];exact HO0⟩⟩,by simp [intOf]⟩
  · have d1:decide ((1:Int)≤0)=false:=by decide
    repeat' (first|go_values|go_skip|go_guarded|(with_reducible refine wg ?_)|go_step|go_upon)
    go_ret
    exact ⟨_,rfl,HO.out,HB.out⟩
theorem RPut0 (p:Proc) (w:World):Calls Tryz.prog 111 #[.slice none 0 0,.agg p.cells] w (fun e w'=> ∃ v,e=.returned v∧KR.Own 220 26 Proc.cells w.heap.size w' v [p]∧Below w.heap.size w w'):=by
 obtain ⟨W0,hW0,hb0,HE⟩:=nb1 (W:=w) (.cells p.cells 220) rfl
 have HB:=hU hb0
 have f0:W0.cell? ⟨w.heap.size,0,none⟩=some (.int .i64 p.pid):=hcell HE.out 0
 clear hb0
 go_enter Tryz.func111,Tryz.ntmps111
 repeat' (first|(rw [hW0];clear hW0)|go_values|go_skip|go_guarded|(with_reducible refine wg ?_)|go_step|go_upon)
 refine (RAt0 p.pid _).mono ?_
 rintro er Wx ⟨rfl,rfl⟩
 dsimp only
 have d0:decide ((0:Int)≤ -1)=false:=by decide
 clear f0
 repeat' (first|go_values|go_skip|go_guarded|(with_reducible refine wg ?_)|go_step|go_upon)
 obtain ⟨Wn,rfl⟩:∃ Wn,Wn=W0:=⟨_,rfl⟩
 go_loopw [6,7,8] (fun lv dv iv wr=> lv=.slice none 0 0∧dv=.bool false∧iv=.int .i64 0∧wr=Wn) (fun _ _ _ _=> 0)
 case atStart=> exact ⟨rfl,rfl,rfl,rfl⟩
 case round=>
  obtain ⟨rfl,rfl,rfl,rfl⟩:=hrel
  obtain ⟨Wn,rfl⟩:∃ Wn,Wn=wr:=⟨_,rfl⟩
  have e1:decide ((0:Int)<0)=false:=by decide
  have HO0:Hid (KR.Own 220 26 Proc.cells w.heap.size Wn (.slice none 0 0) []):=hU (KR.Own.nil _ _ _ _ _)
  obtain ⟨g5,hab,hg5⟩:=nbz HB
  obtain ⟨W1,hW1,hba,H5⟩:=nb1 (W:=Wn) (.cells (Proc.cells p) 220) hab
  have HR1:=nW hba HB
  obtain ⟨v2,W2,hrun,hv2,hgr⟩:=apRow (P:=Tryz.prog) (t:=57) (ty:=57) (bytes:=168) szProc (by decide) Tryz.underlying57 (by kernel_rfl) onesProc ((ownB hba HO0).out) (one_rdG H5.out) HR1.out.size (by show 0 + 1≤maxLen;decide) (by show (0 + 1) * 168≤140737488355328;decide)
  obtain ⟨htn,hbl⟩:=tn_of ((ownB hba HO0).out) HR1.out.size hgr
  have HRUN:=hU hrun
  have HO2:=hU hv2
  have HR2:=hU (HR1.out.trans hbl)
  clear hrun hv2 hgr hba htn hbl H5 HR1
  repeat' (first
   |(refine wpList_load (t:=220) (v:=.agg p.cells) rfl rfl rfl (run_load_whole aggProc HE.out rfl) ?_)
   |(refine wpList_buildSlice_one (v:=.agg (Proc.cells p)) rfl _ rfl rfl Tryz.underlying57 aggProc.size zeroProc rfl (by decide) (by decide) rfl ?_;(try simp only [Value.cells]);rw [hab,hW1];clear hab hW1)
   |(at_builtin;refine wpList_append_run _ rfl _ _ _ _ rfl _ _ rfl rfl _ _ HRUN.out ?_)
   |go_values|go_skip|go_guarded|(with_reducible refine wg ?_)|go_step|go_upon)
  go_ret
  exact ⟨_,rfl,HO2.out,HR2.out⟩
theorem wpList_buildSlice_no {P:Program} {W:World} {ops:Array Oper} {rest:List Oper} {o:Oper} {a:Act} {Q:Exit→Act→World→Prop} {S E:TypeId} {n:Nat} (hg:o.guard=none) (hop:o.op=Op.buildSlice S 0 #[]) (hu:P.underlying S=some (.slice E)) (hs:∀ W,(sizeOf E).run P W=.ok n W)
 (hK:wpList P ops Q rest (a.put o.dst (.slice (some ⟨W.heap.size,0,none⟩) 0 0)) (W.alloc (.cells #[] E))):wpList P ops Q (o::rest) a W:=
 wpList_plain hg fun _ hk=> wp_buildSlice_no hop hu hs (hk _ _ hK)
theorem ones2T (v:Value) (hv:v.oneCell'=true) (n:Int):∀ u ∈ (Value.agg #[v,.int .i64 n]).cells.toList,u.oneCell'=true:=by
 intro u hu
 simp only [Value.cells,List.mem_cons,List.not_mem_nil,or_false] at hu
 rcases hu with rfl|rfl
 · exact hv
 · rfl
theorem RAdd0 (pid:Int) (w:World):Calls Tryz.prog 112 #[.agg #[.slice none 0 0,.int .i64 0],.int .i64 pid] w (fun e w'=> ∃ v,e=.returned (.agg #[v,.int .i64 5])∧KR.Own 3 1 intCells w.heap.size w' v [pid]∧Below w.heap.size w w'):=by
 obtain ⟨q0,q1⟩:=two_new w w.heap.size (.cells #[.slice none 0 0,.int .i64 0] 60) (.cells #[.slice none 0 0,.int .i64 0] 60) rfl
 have hb0:Below w.heap.size w ((w.alloc (.cells #[.slice none 0 0,.int .i64 0] 60)).alloc (.cells #[.slice none 0 0,.int .i64 0] 60)):=bel
 obtain ⟨Wn,hW0⟩:=exW ((w.alloc (.cells #[.slice none 0 0,.int .i64 0] 60)).alloc (.cells #[.slice none 0 0,.int .i64 0] 60))
 rw [hW0] at q0 q1 hb0
 have HE:=hU q0
 have HR:=hU q1
 have HB:=hU hb0
 clear q0 q1 hb0
 have f0:Wn.cell? ⟨w.heap.size,0,none⟩=some (.slice none 0 0):=hcell HE.out 0
 have f1:Wn.cell? ⟨w.heap.size,1,none⟩=some (.int .i64 0):=hcell HE.out 1
 go_enter Tryz.func112,Tryz.ntmps112
 repeat' (first|(rw [hW0];clear hW0)|go_values|go_skip|go_guarded|(with_reducible refine wg ?_)|go_step|go_upon)
 refine (RPlace0 pid _).mono ?_
 rintro er Wx ⟨rfl,rfl⟩
 dsimp only
 have d0:decide ((0:Int)≤ -1)=false:=by decide
 -- the empty row
 obtain ⟨g0,hg0,hgz⟩:=nbz HB
 obtain ⟨Wa,hWa,hba,HG0⟩:=nb1 (W:=Wn) (.cells #[] 3) hg0
 obtain ⟨v1,Wb,hrun1,hv1,hbb⟩:=apFull (P:=Tryz.prog) (t:=58) (ty:=58) (bytes:=8) (B:=g0) szInt (by decide) Tryz.underlying58 (by kernel_rfl) HG0.out (u:=.slice none 0 0) (m:=[]) Rd.nil (Nat.le_refl _) (by decide) (by decide)
 have HRUN1:=hU hrun1
 have HO1:=hU hv1
 have HB1:=nW hbb (nW hba HB)
 have HE1:=nB hbb (nB hba HE)
 have HR1:=nB hbb (nB hba HR)
 have e0:Wa.cell? ⟨w.heap.size,0,none⟩=some (.slice none 0 0):=hcell (nB hba HE).out 0
 obtain ⟨g1,hg1,hgz1⟩:=nbz HB1
 obtain ⟨Wc,hWc,hbc,HG1⟩:=nb1 (W:=Wb) (.cells (intCells pid) 3) hg1
 have HB2:=nW hbc HB1
 have hgg:g0≤Wc.heap.size:=by have:=hba.size;have:=hbb.size;have:=hbc.size;omega
 have hre:=nlt HR hg0
 obtain ⟨v2,Wd,hrun2,hv2,hgr⟩:=apRow (P:=Tryz.prog) (t:=58) (ty:=58) (bytes:=8) szInt (by decide) Tryz.underlying58 (by kernel_rfl) onesInt (ownB hbc HO1).out (one_rdG HG1.out) hgg (by show 0 + 1≤maxLen;decide) (by show (0 + 1) * 8≤140737488355328;decide)
 obtain ⟨htn,hbl⟩:=tn_of (ownB hbc HO1).out hgg hgr
 obtain ⟨a2,c2,hve,_,_⟩:=(hv2.sl szInt).shape
 replace hve:v2=.slice a2 1 c2:=hve
 subst hve
 have HRUN2:=hU hrun2
 have HO2:=hU hv2
 have HB3:=hU (HB2.out.trans (hbl.mono hgz))
 have HR3:=tnB htn (nB hbc HR1)
 clear hrun1 hrun2 hv1 hv2 hbb hbc hgr htn hbl hba HG0 HG1 HE1 HR1 HB1 HB2 HO1
 repeat' (first
  |(refine wpList_buildSlice_no rfl rfl Tryz.underlying58 oneInt.size ?_;rw [hg0,hWa];clear hg0 hWa)
  |(refine wpList_buildSlice_one (v:=.int .i64 pid) rfl _ rfl rfl Tryz.underlying58 oneInt.size zeroInt rfl (by decide) (by decide) rfl ?_;rw [hg1];(first|rw [show Wb.alloc (.cells (Value.int .i64 pid).cells 3)=Wc from hWc]|skip);clear hg1 hWc)
  |(at_builtin;refine wpList_append_run _ rfl _ _ _ _ rfl _ _ rfl rfl _ _ HRUN1.out ?_;clear HRUN1)
  |(at_builtin;refine wpList_append_run _ rfl _ _ _ _ rfl _ _ rfl rfl _ _ HRUN2.out ?_)
  |(refine wpList_store (t:=60) (v:=.agg #[.slice a2 1 c2,.int .i64 5]) (off:=0) (new:=#[.slice a2 1 c2,.int .i64 5]) rfl rfl rfl rfl aggTurn.size HR3.out rfl (show 0 + 2≤2 by decide) (ones2T (.slice a2 1 c2) rfl 5) rfl ?_;intro We hp
    have HB4:=hU (Below.put HB3.out hp (by omega))
    have HO4:=hU (Kn.Own.put HO2.out hp hre)
    have HR4:=pA hp
    clear hp)
  |go_values|go_skip|go_guarded|(with_reducible refine wg ?_)|go_step|go_upon)
 (try simp only [Exit.inBlock,Exit.then]);refine bodyPost_ret (res_cell Tryz.results112 aggTurn rfl HR4.out rfl) rfl ?_
 exact ⟨_,rfl,KR.Own.mono HO4.out hgz,HB4.out⟩
end Rf
end Go.Proofs.YthgehdghihbiaaaGreatDoor
namespace Go.Proofs.YthgehdghihbiaaaGreatDoor
open Go.RowKit
namespace RSeg
open Sg in
theorem row_cell (w:World) (m:ByteArray) (cap:Nat) (t:TypeId) (fr:Nat × Nat) (j:Nat) (hj:j<m.size):(w.alloc (.cells (bytesRow m cap) t fr)).drew.cell? ⟨w.heap.size,j,none⟩=some (.int .u8 (byte m j)):=by
 show (w.alloc (.cells (bytesRow m cap) t fr)).cell? ⟨w.heap.size,j,none⟩=_
 rw [World.cell?_alloc_mark,bytesRow_at m cap j hj,← byte_eq hj]
 rfl
def Rw (B:Nat) (W:World) (v:Value) (l:List UInt8):Prop:=
 ∃ b cap,v=.slice (some ⟨b,0,none⟩) l.length cap∧B≤b∧b<W.heap.size∧l.length≤cap∧(∀ j,j<l.length→W.cell? ⟨b,j,none⟩=some (.int .u8 ((l.getD j 0).toNat:Int)))∧
   (∀ j,j<cap→(W.cell? ⟨b,j,none⟩).isSome=true)∧∀ j,j<cap→W.frozen? ⟨b,j,none⟩=false
def lenV:Value→Nat
 | .slice _ n _=> n
 |_=> 0
theorem getD_snoc (l:List UInt8) (x:UInt8) (j:Nat) (h:j<l.length):(l ++ [x]).getD j 0=l.getD j 0:=by
 rw [List.getD_eq_getElem?_getD,List.getD_eq_getElem?_getD,List.getElem?_append_left h]
theorem getD_last (l:List UInt8) (x:UInt8):(l ++ [x]).getD l.length 0=x:=by
 rw [List.getD_eq_getElem?_getD,List.getElem?_append_right (Nat.le_refl _),Nat.sub_self]
 rfl
theorem rw_room {B:Nat} {W:World} {l:List UInt8} {b cap:Nat} (O:Obj) (hB:B≤b) (hb:b<W.heap.size) (hc:∀ j,j<l.length→W.cell? ⟨b,j,none⟩=some (.int .u8 ((l.getD j 0).toNat:Int)))
 (hs:∀ j,j<cap→(W.cell? ⟨b,j,none⟩).isSome=true) (hf:∀ j,j<cap→W.frozen? ⟨b,j,none⟩=false) (hr:l.length + 1≤cap):
 Rw B ((W.alloc O).setCells b (0 + l.length * 1) [.int .u8 0]) (.slice (some ⟨b,0,none⟩) (l.length + 1) cap) (l ++ [0]):=by
 have hold:∀ o,(W.alloc O).cell? ⟨b,o,none⟩=W.cell? ⟨b,o,none⟩:=fun o=> ((Below.refl W.heap.size W).alloc (Nat.le_refl _) O).cell (p:=⟨b,o,none⟩) hb
 have holdf:∀ o,(W.alloc O).frozen? ⟨b,o,none⟩=W.frozen? ⟨b,o,none⟩:=fun o=> ((Below.refl W.heap.size W).alloc (Nat.le_refl _) O).frozen (p:=⟨b,o,none⟩) hb
 have e1:0 + l.length * 1=l.length:=by omega
 rw [e1]
 have hset:∀ o,((W.alloc O).setCells b l.length [.int .u8 0]).cell? ⟨b,o,none⟩=if o=l.length then some (.int .u8 0) else W.cell? ⟨b,o,none⟩:=by
  intro o
  show ((W.alloc O).setCell ⟨b,l.length,none⟩ (.int .u8 0)).cell? ⟨b,o,none⟩=_
  by_cases h:o=l.length
  · subst h
    rw [if_pos rfl]
    obtain ⟨v,hv⟩:=Option.isSome_iff_exists.1 (hs l.length (by omega))
    exact World.cell?_setCell_same _ _ _ ((hold _).trans hv)
  · rw [if_neg h,World.cell?_setCell_other _ _ _ _ (by intro e;injection e;omega),hold]
 refine ⟨b,cap,by simp,hB,?_,by simpa using hr,?_,?_,?_⟩
 · show b<((W.alloc O).setCell ⟨b,l.length,none⟩ (.int .u8 0)).heap.size
   simp;omega
 · intro j hj
   rw [hset]
   by_cases h:j=l.length
   · subst h;rw [if_pos rfl,getD_last];rfl
   · have:j<l.length:=by simp at hj;omega
     rw [if_neg h,hc j this,getD_snoc _ _ _ this]
 · intro j hj
   rw [hset]
   split
   · rfl
   · exact hs j hj
 · intro j hj
   rw [World.frozen?_setCells,holdf]
   exact hf j hj
theorem rw_grow {B n0:Nat} {W':World} {l:List UInt8} {v:Value} {E:TypeId} (hB:B≤n0) (h:W'.ownsRow n0 E 1 v (l.length + 1) (l.map (fun x=> Value.int .u8 (x.toNat:Int)) ++ [.int .u8 0])):Rw B W' v (l ++ [0]):=by
 obtain ⟨_,h|⟨g,cap,cur,rfl,hg,hcur,hn,_,hsz,htk⟩⟩:=h
 · exact absurd h.2 (by omega)
 have hb:g<W'.heap.size:=(Array.getElem?_eq_some_iff.1 hcur).1
 have hcell:∀ j,j<cap→W'.cell? ⟨g,j,none⟩=cur[j]? :=fun j hj=> by simp [World.cell?,hcur]
 refine ⟨g,cap,by simp,by omega,hb,by simpa using hn,?_,?_,?_⟩
 · intro j hj
   have hj':j<l.length + 1:=by simpa using hj
   rw [hcell j (by omega)]
   have hx:cur.toList[j]? =(l.map (fun x=> Value.int .u8 (x.toNat:Int)) ++ [Value.int .u8 0])[j]? :=by
    rw [← htk,List.getElem?_take,if_pos (by omega)]
   rw [← Array.getElem?_toList,hx]
   by_cases hl:j<l.length
   · rw [List.getElem?_append_left (by simpa using hl),List.getElem?_map,List.getElem?_eq_getElem hl,getD_snoc _ _ _ hl,List.getD_eq_getElem?_getD,List.getElem?_eq_getElem hl]
     rfl
   · obtain rfl:j=l.length:=by omega
     rw [List.getElem?_append_right (by simp),getD_last]
     simp
 · intro j hj
   rw [hcell j hj,Array.getElem?_eq_getElem (by omega)]
   rfl
 · intro j hj
   simp [World.frozen?,hcur]
theorem info_u8:(Tryz.prog.info? 5).map (fun i=> (i.zero,i.size,i.bytes))=some (some (.int .u8 0),1,1):=by kernel_rfl
theorem cell_alloc_old {w:World} {O:Obj} {b o:Nat} (h:b<w.heap.size):(w.alloc O).cell? ⟨b,o,none⟩=w.cell? ⟨b,o,none⟩:=
 ((Below.refl w.heap.size w).alloc (Nat.le_refl _) O).cell (p:=⟨b,o,none⟩) h
def Inv (w:World) (s:ByteArray) (n:Nat) (v:Value) (wr:World):Prop:=∃ k,s.size + k≤n∧Rw w.heap.size wr v (s.data.toList ++ List.replicate k 0)∧Below w.heap.size w wr
theorem Make_yes (n:Int) (s:ByteArray) (w:World) (h0:0≤n) (h1:n≤1024) (h2:s.size≤n):
 Calls Tryz.prog 107 #[.int .i64 n,.string s] w (Gives (.tuple #[.string ⟨(s.data.toList ++ List.replicate (n - s.size).toNat 0).toArray⟩,.int .i64 0]) w):=by
 have hcv:=run_bytes_of_string (P:=Tryz.prog) w 9 76 5 s Tryz.underlying9 Tryz.underlying76 Tryz.underlying5
 have hge:=grownCap_ge w s.size 0 5
 generalize grownCap w s.size 0 5=cap at hcv hge
 go_enter Tryz.func107,Tryz.ntmps107
 repeat' (first|go_values|go_skip|go_guarded|(with_reducible refine wg ?_)|go_step|go_upon)
 go_loopw [6] (fun v wr=> Inv w s n.toNat v wr) (fun v _=> n.toNat - lenV v)
 case atStart=>
  have el:s.data.toList.length=s.size:=Array.length_toList
  refine ⟨0,by omega,⟨w.heap.size,cap,?_,Nat.le_refl _,by simp,?_,?_,?_,?_⟩,bel⟩
  · rw [List.replicate_zero,List.append_nil,el]
  · rw [List.replicate_zero,List.append_nil,el];exact hge
  · intro j hj
    rw [List.replicate_zero,List.append_nil] at hj ⊢
    exact row_cell w s cap _ _ j (by omega)
  · intro j hj
    show ((w.alloc (.cells (bytesRow s cap) 5 ((bytesRow s cap).size,(bytesRow s cap).size + 1))).cell? ⟨w.heap.size,j,none⟩).isSome=true
    rw [World.cell?_alloc_mark,Array.getElem?_eq_getElem (by simp [bytesRow];have:s.data.size=s.size:=rfl;omega)]
    rfl
  · intro j hj
    show (w.alloc (.cells (bytesRow s cap) 5 ((bytesRow s cap).size,(bytesRow s cap).size + 1))).frozen? ⟨w.heap.size,j,none⟩=false
    rw [World.frozen?_alloc_mark]
    simp [bytesRow]
    have:s.data.size=s.size:=rfl
    omega
 case round=>
  obtain ⟨i0,hi,hz0,hz1,hz2⟩:=info_parts info_u8
  obtain ⟨k,hk,⟨b,cp,rfl,hB,hb,hcap,hc,hs,hf⟩,hbel⟩:=hrel
  have el:s.data.toList.length=s.size:=Array.length_toList
  have hl:(s.data.toList ++ List.replicate k 0).length=s.size + k:=by rw [List.length_append,List.length_replicate,el]
  have hsucc:Hid (s.data.toList ++ List.replicate k 0 ++ [0]=s.data.toList ++ List.replicate (k + 1) 0):=hU (by rw [List.append_assoc,List.replicate_succ' ])
  have hfin:Hid (s.size + k=n.toNat→(⟨(s.data.toList ++ List.replicate k 0).toArray⟩:ByteArray)=⟨(s.data.toList ++ List.replicate (n - s.size).toNat 0).toArray⟩):=hU (fun h=> by rw [show (n - s.size).toNat=k by omega])
  generalize s.data.toList ++ List.replicate k 0=L at hcap hc hl hsucc hfin
  have HL:=hU hl
  have hle:L.length≤1024:=by omega
  have hle2:L.length≤n.toNat:=by omega
  have hbs:=hbel.size
  have HB:=hU hbel
  have HC:=hU hc
  have HS:=hU hs
  have HF:=hU hf
  clear hl hbel hc hs hf el
  by_cases hlt:(L.length:Int)<n
  · go_wp2_with (at_builtin;go_loud (refine wpList_append_arg _ rfl _ _ 76 rfl 5 i0 (.int .u8 0) 1 1 Tryz.underlying76 hi hz0 hz1 hz2 rfl (by decide) b 0 L.length cp (L.map (fun x=> Value.int .u8 (x.toNat:Int))) rfl ?ga ?gb ⟨wr.heap.size,0,none⟩ 1 1 [.int .u8 0] rfl rfl ?gc ?gd ?ge ?gf ?gg ?gh ?gi))
    case ga=> rw [List.length_map,Nat.mul_one]
    case gb=>
     intro j u hj
     rw [Nat.zero_add]
     have hjl:j<L.length:=by
      have:=(List.getElem?_eq_some_iff.1 hj).1
      simpa using this
     rw [cell_alloc_old hb,HC.out j hjl,← hj,List.getElem?_map,List.getElem?_eq_getElem hjl,List.getD_eq_getElem?_getD,List.getElem?_eq_getElem hjl]
     rfl
    case gc=>
     intro j u hj
     have hj0:j<1:=(List.getElem?_eq_some_iff.1 hj).1
     obtain rfl:j=0:=by omega
     have ha:(⟨wr.heap.size,0,none⟩:Addr).add 0=⟨wr.heap.size,0,none⟩:=by unfold Addr.add;split <;> simp_all
     rw [ha,World.cell?_alloc_mark]
     exact hj
    case gd=>
     intro u hu
     simp only [List.mem_singleton] at hu
     subst hu
     rfl
    case ge=>
     intro hr j hj
     have hj0:j<1:=hj
     obtain rfl:j=0:=by omega
     rw [show 0 + L.length * 1 + 0=L.length by omega,cell_alloc_old hb]
     exact ⟨HS.out _ (by omega),(((Below.refl wr.heap.size wr).alloc (Nat.le_refl _) _).frozen (p:=⟨b,L.length,none⟩) hb).trans (HF.out _ (by omega))⟩
    case gf=> unfold maxLen;omega
    case gg=> omega
    case gh=>
     intro hr
     have HR:=rw_room (.cells #[.int .u8 0] 5) hB hb HC.out HS.out HF.out hr
     rw [hsucc.out] at HR
     have hbw:Below w.heap.size w ((wr.alloc (.cells #[.int .u8 0] 5)).setCells b (0 + L.length * 1) [.int .u8 0]):=Go.below_setCells hB _ _ _ (HB.out.alloc hbs _)
     rw [show 0 + L.length * 1=L.length by omega] at HR hbw
     generalize (wr.alloc (.cells #[.int .u8 0] 5)).setCells b L.length [.int .u8 0]=w3 at HR hbw ⊢
     have HR':=hU HR
     have HBW:=hU hbw
     clear HR hbw
     go_wp2_with fail
     go_roundw
     case rel=> exact ⟨k + 1,by have:=HL.out;omega,HR'.out,HBW.out⟩
     case measure=> simp [lenV];omega
    case gi=>
     intro hr v' w' hown hgrow
     have hw':wr.heap.size + 1≤w'.heap.size:=by have:=hgrow.size;simp at this;omega
     have HR:Rw w.heap.size w' v' (L ++ [0]):=rw_grow (by omega) hown
     rw [hsucc.out] at HR
     have hbw:Below w.heap.size w w':=(HB.out.alloc hbs _).grown hgrow (by simp;omega) (fun _ h=> by cases h)
     have hlen:lenV v'=L.length + 1:=by
      obtain ⟨_,_,rfl,_⟩:=HR
      have hx:=congrArg List.length hsucc.out
      simp only [List.length_append,List.length_singleton] at hx
      show (s.data.toList ++ List.replicate (k + 1) 0).length=_
      rw [List.length_append]
      omega
     have HR':=hU HR
     have HBW:=hU hbw
     have HLEN:=hU hlen
     clear HR hbw hlen hown hgrow
     go_wp2_with fail
     go_roundw
     case rel=> exact ⟨k + 1,by have:=HL.out;omega,HR'.out,HBW.out⟩
     case measure=> rw [HLEN.out];simp [lenV];omega
  · have hc':∀ j (hj:j<L.length),wr.cell? ((⟨b,0,none⟩:Addr).add j)=some (.int .u8 (L[j].toNat:Int)):=fun j hj=> by
     have ha:(⟨b,0,none⟩:Addr).add j=⟨b,j,none⟩:=by unfold Addr.add;split <;> simp_all
     rw [ha,HC.out j hj,List.getD_eq_getElem?_getD,List.getElem?_eq_getElem hj]
     rfl
    have hback:=run_convert_bytes_back (P:=Tryz.prog) wr 76 9 5 ⟨b,0,none⟩ cp L Tryz.underlying76 Tryz.underlying5 Tryz.underlying9 hc'
    clear hc'
    have hall:=hfin.out (by have:=HL.out;omega)
    have HB':=HB.out
    go_wp2_with fail
    go_ret2
    exact gives_of (two_str (by first|rfl|exact hall) rfl) bel
theorem Make (n:Int) (s:ByteArray) (w:World):
 Calls Tryz.prog 107 #[.int .i64 n,.string s] w (Gives (.tuple #[.string (Sg.makeM n s),.int .i64 (Sg.makeE n s)]) w):=by
 unfold Sg.makeM Sg.makeE
 by_cases h:n<0∨1024<n
 · rw [if_neg (by omega),if_pos h]
   go_enter Tryz.func107,Tryz.ntmps107
   go_wp2_with fail
   all_goals (first|go_ret2|(exfalso;simp at *;omega))
   all_goals exact ⟨rfl,bel⟩
 · rw [if_neg h]
   by_cases h2:n<s.size
   · rw [if_neg (by omega),if_pos h2]
     have h3:0≤n:=by omega
     have h4:n≤1024:=by omega
     go_enter Tryz.func107,Tryz.ntmps107
     go_wp2_with fail
     all_goals go_ret2
     all_goals exact ⟨rfl,bel⟩
   · rw [if_pos (by omega),if_neg h2]
     exact Make_yes n s w (by omega) (by omega) (by omega)
end RSeg
end Go.Proofs.YthgehdghihbiaaaGreatDoor
namespace Go.Proofs.YthgehdghihbiaaaGreatDoor
open Go.RowKit KR Kn RegT3
namespace Rf
abbrev E0 (iv ov nv bx:Value) (hs now gone:Int):Array Value:=#[.slice none 0 0,.slice none 0 0,.int .i64 0,.slice none 0 0,.slice none 0 0,.int .i64 hs,.slice none 0 0,.int .u64 now,iv,ov,nv,bx,.string ⟨#[]⟩,.slice none 0 0,.slice none 0 0,.int .i64 0,.int .i64 gone]
theorem ones2V (n:Int) (v:Value) (hv:v.oneCell'=true):∀ u ∈ (Value.agg #[.int .i64 n,v]).cells.toList,u.oneCell'=true:=by
 intro u hu
 simp only [Value.cells,List.mem_cons,List.not_mem_nil,or_false] at hu
 rcases hu with rfl|rfl
 · rfl
 · exact hv
theorem hole_at {W:World} {B:Nat} {v:Value} {n:Int} (h:KR.Own 256 3 Span.cells B W v [⟨0,n,0⟩]):∃ g c,v=.slice (some ⟨g,0,none⟩) 1 c∧B≤g∧g<W.heap.size∧∀ W',Below W.heap.size W W'→W'.cell? ⟨g,0,none⟩=some (.int .i64 0)∧W'.cell? ⟨g,1,none⟩=some (.int .i64 n):=by
 rcases h.2 with ⟨_,h0⟩|⟨g,cap,cur,rfl,hB,hh,hc,hm,hs,ht⟩
 · cases h0
 · refine ⟨g,cap,rfl,hB,hlt hh,fun W' hb=> ?_⟩
   have hel:=(h.sl szSpan).elem.2.2.2 0 _ rfl
   obtain ⟨g',off,he,hgl,hcl⟩:=hel
   injection he with he
   injection he with h1 h2
   subst h1
   subst h2
   have a0:=hcl W' hb 0 _ rfl
   have a1:=hcl W' hb 1 _ rfl
   rw [Nat.zero_mul,Nat.add_zero] at a0
   rw [Nat.zero_mul] at a1
   exact ⟨a0,a1⟩
theorem RTakeY (n who:Int) (hn:64≤n) (hm:n≤9223372036854775807) (w:World):Calls Tryz.prog 109 #[.agg #[.int .i64 n,.slice none 0 0],.int .i64 64,.int .i64 who] w (fun e w'=> ∃ v,e=.returned (.tuple #[.agg #[.int .i64 n,v],.int .i64 0,.int .i64 0])∧KR.Own 256 3 Span.cells w.heap.size w' v [⟨0,64,who⟩]∧Below w.heap.size w w'):=by
 obtain ⟨q0,q1⟩:=two_new w w.heap.size (.cells #[.int .i64 n,.slice none 0 0] 65) (.cells #[.int .i64 0,.slice none 0 0] 65) rfl
 have hb0:Below w.heap.size w ((w.alloc (.cells #[.int .i64 n,.slice none 0 0] 65)).alloc (.cells #[.int .i64 0,.slice none 0 0] 65)):=bel
 obtain ⟨Wn,hW0⟩:=exW ((w.alloc (.cells #[.int .i64 n,.slice none 0 0] 65)).alloc (.cells #[.int .i64 0,.slice none 0 0] 65))
 rw [hW0] at q0 q1 hb0
 have HE:=hU q0
 have HR:=hU q1
 have HB:=hU hb0
 clear q0 q1 hb0
 go_enter Tryz.func109,Tryz.ntmps109
 repeat' (first|(rw [hW0];clear hW0)|(refine wpList_load (t:=65) (v:=.agg #[.int .i64 n,.slice none 0 0]) rfl rfl rfl (run_load_whole aggHeap HE.out rfl) ?_)|go_values|go_skip|go_guarded|(with_reducible refine wg ?_)|go_step|go_upon)
 refine (RRight0 n (by omega) _).mono ?_
 rintro er Wn ⟨rfl,hb⟩
 replace HE:=nB hb HE
 replace HR:=nB hb HR
 replace HB:=nW hb HB
 clear hb
 dsimp only
 have d0:decide ((64:Int)<1)=false:=by decide
 repeat' (first|(refine wpList_load (t:=65) (v:=.agg #[.int .i64 n,.slice none 0 0]) rfl rfl rfl (run_load_whole aggHeap HE.out rfl) ?_)|go_values|go_skip|go_guarded|(with_reducible refine wg ?_)|go_step|go_upon)
 refine (RHoles0 n (by omega) hm _).mono ?_
 rintro er Wn ⟨v,rfl,hv,hb⟩
 rw [show holes0 n=[⟨0,n,0⟩] by unfold holes0;rw [if_pos (by omega)]] at hv
 obtain ⟨g,c,rfl,hgB,hgl,hcl⟩:=hole_at hv
 have hre0:=hlt HR.out
 replace HE:=nB hb HE
 replace HR:=nB hb HR
 replace HB:=nW hb HB
 have HCL:=hU hcl
 clear hb hv hcl
 dsimp only
 obtain ⟨Wo,rfl⟩:∃ Wo,Wo=Wn:=⟨_,rfl⟩
 repeat' (first|go_values|go_skip|go_guarded|(with_reducible refine wg ?_)|go_step|go_upon)
 go_loopw [11] (fun iv wr=> iv=.int .i64 0∧wr=Wo) (fun _ _=> 0)
 case atStart=> exact ⟨rfl,rfl⟩
 case round=>
  obtain ⟨rfl,hw⟩:=hrel
  obtain ⟨Wn,rfl⟩:∃ Wn,Wn=wr:=⟨_,rfl⟩
  subst hw
  obtain ⟨c0,c1⟩:=HCL.out Wn (Below.refl _ _)
  have f0:Wn.cell? ⟨w.heap.size,0,none⟩=some (.int .i64 n):=hcell HE.out 0
  have f1:Wn.cell? ⟨w.heap.size,1,none⟩=some (.slice none 0 0):=hcell HE.out 1
  have e1:decide ((0:Int)<1)=true:=by decide
  have e2:decide (n<64)=false:=by simp;omega
  repeat' (first|go_values|go_skip|go_guarded|(with_reducible refine wg ?_)|go_step|go_upon)
  go_loopw [12,13,14] (fun lv dv kv wr=> lv=.slice none 0 0∧dv=.bool false∧kv=.int .i64 0∧wr=Wn) (fun _ _ _ _=> 0)
  case atStart=> exact ⟨rfl,rfl,rfl,rfl⟩
  case round=>
   obtain ⟨rfl,rfl,rfl,hw⟩:=hrel
   subst hw
   have e3:decide ((0:Int)<0)=false:=by decide
   obtain ⟨Wn,hWW⟩:∃ Wn,Wn=wr:=⟨_,rfl⟩
   subst hWW
   obtain ⟨B9,hB9⟩:∃ B,B=Wn.heap.size:=⟨_,rfl⟩
   have hbz:=HB.out.size
   have hre:=hlt HR.out
   have HO0:Hid (KR.Own 256 3 Span.cells B9 Wn (.slice none 0 0) []):=hU (KR.Own.nil _ _ _ _ _)
   have HBB:Hid (Below B9 Wn Wn):=hU (Below.refl _ _)
   obtain ⟨W1,hW1,hba,H5⟩:=nb1 (W:=Wn) (.cells (Span.cells ⟨0,64,who⟩) 256) hB9.symm
   obtain ⟨v2,W2,hrun,hv2,hgr⟩:=apRow (P:=Tryz.prog) (t:=63) (ty:=63) (bytes:=24) szSpan (by decide) Tryz.underlying63 (by kernel_rfl) onesSpan (ownB hba HO0).out (one_rdG H5.out) (by have:=hba.size;omega) (by show 0 + 1≤maxLen;decide) (by show (0 + 1) * 24≤140737488355328;decide)
   obtain ⟨htn,hbl⟩:=tn_of (ownB hba HO0).out (by have:=hba.size;omega) hgr
   obtain ⟨a2,c2,hve,_,_⟩:=(hv2.sl szSpan).shape
   replace hve:v2=.slice a2 1 c2:=hve
   subst hve
   have HRUN:=hU hrun
   have HO2:=hU hv2
   have HE2:=tnB htn (nB hba HE)
   have HR2:=tnB htn (nB hba HR)
   have HB2:Hid (Below w.heap.size w W2):=hU ((nW hba HB).out.trans (hbl.mono (by omega)))
   have HW2:Hid (Below Wn.heap.size Wn W2):=hU (hba.trans (hbl.mono (by omega)))
   have hab:=hB9.symm
   clear hrun hv2 hgr hba htn hbl H5 HO0 HBB
   repeat' (first
    |(refine wpList_buildSlice_one (v:=.agg (Span.cells ⟨0,64,who⟩)) rfl _ rfl rfl Tryz.underlying63 aggSpan.size zeroSpan rfl (by decide) (by decide) rfl ?_;(try simp only [Value.cells]);rw [hab,hW1];clear hab hW1)
    |(at_builtin;refine wpList_append_run _ rfl _ _ _ _ rfl _ _ rfl rfl _ _ HRUN.out ?_)
    |go_values|go_skip|go_guarded|(with_reducible refine wg ?_)|go_step|go_upon)
   refine wp_region_noPanic ?_
   refine go0 (S:=fun W=> W.cell? ⟨w.heap.size,0,none⟩=some (.int .i64 n)∧W.cell? ⟨g,0,none⟩=some (.int .i64 0)) [] (⟨hcell HE2.out 0,(HCL.out _ HW2.out.drew).1⟩) fun hS=> ?_
   obtain ⟨Wm,hWd⟩:=exW W2.drew
   have hbd:=dW hWd
   replace HE2:=nB hbd HE2
   replace HR2:=nB hbd HR2
   replace HB2:=nW hbd HB2
   replace HO2:=ownB hbd HO2
   have HC2:Hid (Wm.cell? ⟨g,0,none⟩=some (.int .i64 0)):=hU (by rw [← hWd];exact (HCL.out _ HW2.out.drew).1)
   rw [hWd] at hS ⊢
   clear hWd hbd
   refine tp 0 ?_;(try simp only [acts])
   refine tl 1 ?_;(try simp only [acts])
   refine tp 2 ?_;(try simp only [acts])
   refine tp 3 ?_;(try simp only [acts])
   refine tp 4 ?_;(try simp only [acts])
   refine tp 5 ?_;(try simp only [acts])
   refine tp 6 ?_;(try simp only [acts])
   refine tp 7 ?_;(try simp only [acts])
   refine tl 8 ?_;(try simp only [acts])
   clear hS
   refine ro 9 fun K hK=> ?_
   refine want rfl ?_
   refine wp_store (t:=65) (v:=.agg #[.int .i64 n,.slice a2 1 c2]) (off:=0) (new:=#[.int .i64 n,.slice a2 1 c2]) rfl rfl rfl aggHeap.size HR2.out rfl (show 0 + 2≤2 by decide) (ones2V n (.slice a2 1 c2) rfl) rfl ?_
   intro We hp
   have HB4:=hU (Below.put HB2.out hp (by omega))
   have HO4:=hU (Kn.Own.put HO2.out hp (by omega))
   have HR4:=pA hp
   have HE4:=pO hp HE2
   have c4:We.cell? ⟨g,0,none⟩=some (.int .i64 0):=by
    have hne:g ≠ w.heap.size + 1:=by omega
    rw [← HC2.out]
    simp only [World.cell?,hp.oth g hne]
   clear hp
   refine nx hK ⟨hcell HE4.out 0,c4⟩ fun hS=> ?_
   clear hK K
   (try simp only [acts])
   refine tp 10 ?_;(try simp only [acts])
   refine tp 11 ?_;(try simp only [acts])
   refine doneL (by kernel_rfl) (NoPanic.normal ?_) _
   repeat' (first|go_values|go_skip|go_guarded|(with_reducible refine wg ?_)|go_step|go_upon)
   (try simp only [Exit.inBlock,Exit.then]);refine bodyPost_ret (res_cell_tmp2 Tryz.results109 aggHeap rfl HR4.out rfl) rfl ?_
   exact ⟨_,rfl,KR.Own.mono HO4.out (by omega),HB4.out⟩
theorem RImage (iv ov nv bx:Value) (images:List ByteArray) (hs now gone:Int) (k:Kern) (hk:k.images=images) (w:World) (hi:Rd 1 strCells w iv images):Calls Tryz.prog 96 #[.agg (E0 iv ov nv bx hs now gone),.int .u32 0] w (Gives (.tuple #[.string (imageM k 0),.int .i64 (imageE k 0)]) w):=by
 obtain ⟨a,c,rfl,_,_⟩:=hi.shape
 obtain ⟨W0,hW0,hb0,HE⟩:=nb1 (W:=w) (.cells (E0 (.slice a images.length c) ov nv bx hs now gone) 70) rfl
 have HB:=hU hb0
 have HI:=hU (hi.below hb0)
 clear hb0 hi
 have f8:W0.cell? ⟨w.heap.size,8,none⟩=some (.slice a images.length c):=hcell HE.out 8
 have d0:IntKind.i64.wrap 0=0:=by decide
 by_cases h0:images.length=0
 · obtain rfl:=List.eq_nil_of_length_eq_zero h0
   replace hW0:w.alloc (.cells (E0 (.slice a 0 c) ov nv bx hs now gone) 70)=W0:=hW0
   have hm:imageM k 0=⟨#[]⟩∧imageE k 0=7:=by unfold imageM imageE;rw [hk];exact ⟨rfl,rfl⟩
   rw [hm.1,hm.2]
   clear hm h0
   go_enter Tryz.func96,Tryz.ntmps96
   repeat' (first|(rw [hW0];clear hW0)|go_values|go_skip|go_guarded|(with_reducible refine wg ?_)|go_step|go_upon)
   go_ret2
   exact ⟨rfl,HB.out⟩
 · have e1:decide ((images.length:Int)≤0)=false:=decide_eq_false (by omega)
   have e4:decide (images=[])=false:=decide_eq_false (by rintro rfl;exact h0 rfl)
   have e2:(0:Int)<(images.length:Int):=by omega
   have e3:0<images.length:=by omega
   obtain ⟨x,hx⟩:∃ x,images[0]? =some x:=⟨_,List.getElem?_eq_getElem e3⟩
   have hm:imageM k 0=Sg.makeM 64 x∧imageE k 0=Sg.makeE 64 x:=by
    unfold imageM imageE
    rw [hk,show images[(0:Int).toNat]? =some x from hx]
    exact ⟨rfl,rfl⟩
   rw [hm.1,hm.2]
   obtain ⟨g,off,rfl,hgl,hcl⟩:=HI.out.elem.2.2.2 0 x hx
   have c0:W0.cell? ⟨g,off,none⟩=some (.string x):=by
    have:=hcl W0 (Below.refl _ _) 0 _ rfl
    rw [Nat.zero_mul] at this
    exact this
   clear hm hx hgl hcl h0
   go_enter Tryz.func96,Tryz.ntmps96
   repeat' (first|(rw [hW0];clear hW0)|go_values|go_skip|go_guarded|(with_reducible refine wg ?_)|go_step|go_upon)
   refine (RSeg.Make 64 x _).mono ?_
   rintro er Wn ⟨rfl,hb⟩
   replace HB:=nW hb HB
   dsimp only
   repeat' (first|go_values|go_skip|go_guarded|(with_reducible refine wg ?_)|go_step|go_upon)
   go_ret2
   exact ⟨rfl,HB.out⟩
theorem RTakeN (n who:Int) (h0:0≤n) (hn:n<64) (hm:n≤9223372036854775807) (w:World):Calls Tryz.prog 109 #[.agg #[.int .i64 n,.slice none 0 0],.int .i64 64,.int .i64 who] w (fun e w'=> e=.returned (.tuple #[.agg #[.int .i64 n,.slice none 0 0],.int .i64 0,.int .i64 5])∧Below w.heap.size w w'):=by
 obtain ⟨q0,q1⟩:=two_new w w.heap.size (.cells #[.int .i64 n,.slice none 0 0] 65) (.cells #[.int .i64 0,.slice none 0 0] 65) rfl
 have hb0:Below w.heap.size w ((w.alloc (.cells #[.int .i64 n,.slice none 0 0] 65)).alloc (.cells #[.int .i64 0,.slice none 0 0] 65)):=bel
 obtain ⟨Wn,hW0⟩:=exW ((w.alloc (.cells #[.int .i64 n,.slice none 0 0] 65)).alloc (.cells #[.int .i64 0,.slice none 0 0] 65))
 rw [hW0] at q0 q1 hb0
 have HE:=hU q0
 have HR:=hU q1
 have HB:=hU hb0
 clear q0 q1 hb0
 go_enter Tryz.func109,Tryz.ntmps109
 repeat' (first|(rw [hW0];clear hW0)|(refine wpList_load (t:=65) (v:=.agg #[.int .i64 n,.slice none 0 0]) rfl rfl rfl (run_load_whole aggHeap HE.out rfl) ?_)|go_values|go_skip|go_guarded|(with_reducible refine wg ?_)|go_step|go_upon)
 refine (RRight0 n h0 _).mono ?_
 rintro er Wn ⟨rfl,hb⟩
 replace HE:=nB hb HE
 replace HR:=nB hb HR
 replace HB:=nW hb HB
 clear hb
 dsimp only
 have d0:decide ((64:Int)<1)=false:=by decide
 repeat' (first|(refine wpList_load (t:=65) (v:=.agg #[.int .i64 n,.slice none 0 0]) rfl rfl rfl (run_load_whole aggHeap HE.out rfl) ?_)|go_values|go_skip|go_guarded|(with_reducible refine wg ?_)|go_step|go_upon)
 refine (RHoles0 n h0 hm _).mono ?_
 rintro er Wn ⟨v,rfl,hv,hb⟩
 replace HE:=nB hb HE
 replace HR:=nB hb HR
 replace HB:=nW hb HB
 clear hb
 dsimp only
 obtain ⟨Wo,rfl⟩:∃ Wo,Wo=Wn:=⟨_,rfl⟩
 by_cases hz:0<n
 · rw [show holes0 n=[⟨0,n,0⟩] by unfold holes0;rw [if_pos hz]] at hv
   obtain ⟨g,c,rfl,hgB,hgl,hcl⟩:=hole_at hv
   obtain ⟨c0,c1⟩:=hcl Wo (Below.refl _ _)
   have e2:decide (n<64)=true:=by simp [hn]
   clear hv hcl
   repeat' (first|go_values|go_skip|go_guarded|(with_reducible refine wg ?_)|go_step|go_upon)
   go_loopw [11] (fun iv wr=> (iv=.int .i64 0∨iv=.int .i64 1)∧wr=Wo) (fun iv _=> 1 - (intOf iv).toNat)
   case atStart=> exact ⟨.inl rfl,rfl⟩
   case round=>
    obtain ⟨hiv,hw⟩:=hrel
    obtain ⟨Wn,hWn⟩:∃ Wn,Wn=wr:=⟨_,rfl⟩
    subst hWn
    subst hw
    rcases hiv with rfl|rfl
    · have e1:decide ((0:Int)<1)=true:=by decide
      repeat' (first|go_values|go_skip|go_guarded|(with_reducible refine wg ?_)|go_step|go_upon)
      exact ⟨⟨.inr (by go_num),rfl⟩,by simp [intOf]⟩
    · have e1:decide ((1:Int)<1)=false:=by decide
      have f0:Wn.cell? ⟨w.heap.size,0,none⟩=some (.int .i64 n):=hcell HE.out 0
      have f1:Wn.cell? ⟨w.heap.size,1,none⟩=some (.slice none 0 0):=hcell HE.out 1
      repeat' (first
       |(refine wpList_store (t:=65) (v:=.agg #[.int .i64 n,.slice none 0 0]) (off:=0) (new:=#[.int .i64 n,.slice none 0 0]) rfl rfl rfl rfl aggHeap.size HR.out rfl (show 0 + 2≤2 by decide) (ones2V n (.slice none 0 0) rfl) rfl ?_;intro We hp
         have HB4:=hU (Below.put HB.out hp (by omega))
         have HR4:=pA hp
         clear hp)
       |go_values|go_skip|go_guarded|(with_reducible refine wg ?_)|go_step|go_upon)
      (try simp only [Exit.inBlock,Exit.then]);refine bodyPost_ret (res_cell_tmp2 Tryz.results109 aggHeap rfl HR4.out rfl) rfl ?_
      exact ⟨rfl,HB4.out⟩
 · rw [show holes0 n=[] by unfold holes0;rw [if_neg hz]] at hv
   obtain ⟨a2,c2,hve,_,_⟩:=(hv.sl szSpan).shape
   replace hve:v=.slice a2 0 c2:=hve
   subst hve
   clear hv
   repeat' (first|go_values|go_skip|go_guarded|(with_reducible refine wg ?_)|go_step|go_upon)
   go_loopw [11] (fun iv wr=> iv=.int .i64 0∧wr=Wo) (fun _ _=> 0)
   case atStart=> exact ⟨rfl,rfl⟩
   case round=>
    obtain ⟨rfl,hw⟩:=hrel
    obtain ⟨Wn,hWn⟩:∃ Wn,Wn=wr:=⟨_,rfl⟩
    subst hWn
    subst hw
    have e1:decide ((0:Int)<0)=false:=by decide
    have f0:Wn.cell? ⟨w.heap.size,0,none⟩=some (.int .i64 n):=hcell HE.out 0
    have f1:Wn.cell? ⟨w.heap.size,1,none⟩=some (.slice none 0 0):=hcell HE.out 1
    repeat' (first
     |(refine wpList_store (t:=65) (v:=.agg #[.int .i64 n,.slice none 0 0]) (off:=0) (new:=#[.int .i64 n,.slice none 0 0]) rfl rfl rfl rfl aggHeap.size HR.out rfl (show 0 + 2≤2 by decide) (ones2V n (.slice none 0 0) rfl) rfl ?_;intro We hp
       have HB4:=hU (Below.put HB.out hp (by omega))
       have HR4:=pA hp
       clear hp)
     |go_values|go_skip|go_guarded|(with_reducible refine wg ?_)|go_step|go_upon)
    (try simp only [Exit.inBlock,Exit.then]);refine bodyPost_ret (res_cell_tmp2 Tryz.results109 aggHeap rfl HR4.out rfl) rfl ?_
    exact ⟨rfl,HB4.out⟩
abbrev KC (pv tv piv hv iv ov nv bx:Value) (left hs now gone:Int):Array Value:=#[pv,tv,.int .i64 left,.slice none 0 0,piv,.int .i64 hs,hv,.int .u64 now,iv,ov,nv,bx,.string ⟨#[]⟩,.slice none 0 0,.slice none 0 0,.int .i64 0,.int .i64 gone]
theorem onesKC {pv tv piv hv iv ov nv bx:Value} {left hs now gone:Int} (h1:pv.oneCell'=true) (h2:tv.oneCell'=true) (h3:piv.oneCell'=true) (h4:hv.oneCell'=true) (h5:iv.oneCell'=true) (h6:ov.oneCell'=true) (h7:nv.oneCell'=true) (h8:bx.oneCell'=true):∀ u ∈ (Value.agg (KC pv tv piv hv iv ov nv bx left hs now gone)).cells.toList,u.oneCell'=true:=by
 intro u hu
 simp only [Value.cells,KC,List.mem_cons,List.not_mem_nil,or_false] at hu
 rcases hu with rfl|rfl|rfl|rfl|rfl|rfl|rfl|rfl|rfl|rfl|rfl|rfl|rfl|rfl|rfl|rfl|rfl <;> first|rfl|assumption
theorem ownP {α:Type} {E T:TypeId} {sz B b:Nat} {f:α→Array Value} {W W':World} {v:Value} {l:List α} {c cs:Array Value} (h:Hid (KR.Own E sz f B W v l)) (hp:Put b cs T W W') (hc:Hid (W.heap[b]? =some (.cells c T (0,0)))) (hT:E ≠ T:=by decide):Hid (KR.Own E sz f B W' v l):=by
 have hc:=hc.out
 obtain ⟨h0,h1|⟨g,cap,cur,hv,hB,hg,hc',hm,hs,ht⟩⟩:=h.out
 · exact hU ⟨h0,.inl h1⟩
 · have hne:g ≠ b:=by
    rintro rfl
    rw [hg] at hc
    injection hc with hc
    injection hc with _ hT2 _
    exact hT hT2
   exact hU ⟨h0,.inr ⟨g,cap,cur,hv,hB,(hp.oth g hne).trans hg,hc',hm,hs,ht⟩⟩
theorem four_newR (W:World) (o1 o2 o3 o4:Obj):((((W.alloc o1).alloc o2).alloc o3).alloc o4).heap[W.heap.size]? =some o1∧((((W.alloc o1).alloc o2).alloc o3).alloc o4).heap[W.heap.size + 1]? =some o2∧((((W.alloc o1).alloc o2).alloc o3).alloc o4).heap[W.heap.size + 1 + 1]? =some o3∧((((W.alloc o1).alloc o2).alloc o3).alloc o4).heap[W.heap.size + 1 + 1 + 1]? =some o4:=by
 obtain ⟨h1,h2,h3⟩:=Kn.three_new W W.heap.size o1 o2 o3 rfl
 refine ⟨hold h1,hold h2,hold h3,?_⟩
 have h:=hnew (((W.alloc o1).alloc o2).alloc o3) o4
 rwa [World.size_alloc,World.size_alloc,World.size_alloc] at h
theorem RfreshY (iv ov nv bx:Value) (hs now:Int) (m:ByteArray) (w:World) (h5:iv.oneCell'=true) (h6:ov.oneCell'=true) (h7:nv.oneCell'=true) (h8:bx.oneCell'=true) (hn:64≤hs) (hm:hs≤9223372036854775807):Calls Tryz.prog 97 #[.agg (KC (.slice none 0 0) (.slice none 0 0) (.slice none 0 0) (.slice none 0 0) iv ov nv bx 0 hs now 0),.int .i64 0,.agg #[.int .u32 0,.int .u32 0,.int .u32 0,.int .u32 0,.int .u32 0,.int .u32 0,.int .u32 0,.int .u32 0,.int .u32 0],.string m,.agg #[.int .i64 0,.bool false,.int .i64 0,.bool false,.int .i64 0,.bool false,.int .i64 0,.bool false]] w (fun e w'=> ∃ pv tv hv,e=.returned (.tuple #[.agg (KC (pv) (tv) (.slice none 0 0) (hv) iv ov nv bx 5 hs now 0),.int .i64 1,.int .i64 0])∧KR.Own 220 26 Proc.cells w.heap.size w' pv [(born {Proc.zero with mem:=m} 1)]∧KR.Own 3 1 intCells w.heap.size w' tv [1]∧KR.Own 256 3 Span.cells w.heap.size w' hv [⟨0,64,1⟩]∧Below w.heap.size w w'):=by
 obtain ⟨q0,q1,q2,q3⟩:=four_newR w (.cells (KC (.slice none 0 0) (.slice none 0 0) (.slice none 0 0) (.slice none 0 0) iv ov nv bx 0 hs now 0) 70) (.cells #[.int .u32 0,.int .u32 0,.int .u32 0,.int .u32 0,.int .u32 0,.int .u32 0,.int .u32 0,.int .u32 0,.int .u32 0] 213) (.cells #[.int .i64 0,.bool false,.int .i64 0,.bool false,.int .i64 0,.bool false,.int .i64 0,.bool false] 216) (.cells #[.slice none 0 0,.slice none 0 0,.int .i64 0,.slice none 0 0,.slice none 0 0,.int .i64 0,.slice none 0 0,.int .u64 0,.slice none 0 0,.slice none 0 0,.slice none 0 0,.slice none 0 0,.string ⟨#[]⟩,.slice none 0 0,.slice none 0 0,.int .i64 0,.int .i64 0] 70)
 have hb0:Below w.heap.size w ((((w.alloc (.cells (KC (.slice none 0 0) (.slice none 0 0) (.slice none 0 0) (.slice none 0 0) iv ov nv bx 0 hs now 0) 70)).alloc (.cells #[.int .u32 0,.int .u32 0,.int .u32 0,.int .u32 0,.int .u32 0,.int .u32 0,.int .u32 0,.int .u32 0,.int .u32 0] 213)).alloc (.cells #[.int .i64 0,.bool false,.int .i64 0,.bool false,.int .i64 0,.bool false,.int .i64 0,.bool false] 216)).alloc (.cells #[.slice none 0 0,.slice none 0 0,.int .i64 0,.slice none 0 0,.slice none 0 0,.int .i64 0,.slice none 0 0,.int .u64 0,.slice none 0 0,.slice none 0 0,.slice none 0 0,.slice none 0 0,.string ⟨#[]⟩,.slice none 0 0,.slice none 0 0,.int .i64 0,.int .i64 0] 70)):=bel
 obtain ⟨Wn,hW0⟩:=exW ((((w.alloc (.cells (KC (.slice none 0 0) (.slice none 0 0) (.slice none 0 0) (.slice none 0 0) iv ov nv bx 0 hs now 0) 70)).alloc (.cells #[.int .u32 0,.int .u32 0,.int .u32 0,.int .u32 0,.int .u32 0,.int .u32 0,.int .u32 0,.int .u32 0,.int .u32 0] 213)).alloc (.cells #[.int .i64 0,.bool false,.int .i64 0,.bool false,.int .i64 0,.bool false,.int .i64 0,.bool false] 216)).alloc (.cells #[.slice none 0 0,.slice none 0 0,.int .i64 0,.slice none 0 0,.slice none 0 0,.int .i64 0,.slice none 0 0,.int .u64 0,.slice none 0 0,.slice none 0 0,.slice none 0 0,.slice none 0 0,.string ⟨#[]⟩,.slice none 0 0,.slice none 0 0,.int .i64 0,.int .i64 0] 70))
 rw [hW0] at q0 q1 q2 q3 hb0
 have HK:=hU q0
 have HC:=hU q1
 have HF:=hU q2
 have HR:=hU q3
 have HB:=hU hb0
 clear q0 q1 q2 q3 hb0
 have HON:=hU (And.intro h5 (And.intro h6 (And.intro h7 h8)))
 clear h5 h6 h7 h8
 have f0:Wn.cell? ⟨w.heap.size,0,none⟩=some (.slice none 0 0):=hcell HK.out 0
 have d0:decide ((6:Int)≤0)=false:=by decide
 go_enter Tryz.func97,Tryz.ntmps97
 repeat' (first|(rw [hW0];clear hW0)|go_values|go_skip|go_guarded|(with_reducible refine wg ?_)|go_step|go_upon)
 refine (RNext0 _).mono ?_
 rintro er Wx ⟨rfl,rfl⟩
 dsimp only
 clear f0 d0
 repeat' (first
  |(refine wpList_load (t:=65) (v:=.agg #[.int .i64 hs,.slice none 0 0]) rfl rfl rfl (run_load_part aggHeap HK.out rfl rfl) ?_)
  |go_values|go_skip|go_guarded|(with_reducible refine wg ?_)|go_step|go_upon)
 refine (RTakeY hs 1 hn hm _).mono ?_
 rintro er Wn ⟨hv,rfl,hown,hb⟩
 obtain ⟨ha,hc,hve,_,_⟩:=(hown.sl szSpan).shape
 replace hve:hv=.slice ha 1 hc:=hve
 subst hve
 replace hown:=KR.Own.mono hown HB.out.size
 have HO1:=hU hown
 replace HK:=nB hb HK
 replace HC:=nB hb HC
 replace HF:=nB hb HF
 replace HR:=nB hb HR
 replace HB:=nW hb HB
 clear hb hown
 dsimp only
 obtain ⟨b4,hab,hbz⟩:=nbz HB
 have hb4:=nlt HR hab
 obtain ⟨Wa,hWa,hba,HZ⟩:=nb1 (W:=Wn) (.cells #[.int .i64 0,.slice none 0 0] 65) hab
 have e1:((0:Int) !=0)=false:=by decide
 replace HK:=nB hba HK
 replace HC:=nB hba HC
 replace HF:=nB hba HF
 replace HR:=nB hba HR
 replace HB:=nW hba HB
 replace HO1:=ownB hba HO1
 clear hba
 repeat' (first
  |(rw [hWa,hab];clear hWa hab)
  |(refine wpList_store (t:=65) (v:=.agg #[.int .i64 hs,.slice ha 1 hc]) (off:=0) (new:=#[.int .i64 hs,.slice ha 1 hc]) rfl rfl rfl rfl aggHeap.size HZ.out rfl (show 0 + 2≤2 by decide) (ones2V hs (.slice ha 1 hc) rfl) rfl ?_;intro Wn hp
    replace HO1:=ownP HO1 hp HZ
    replace HB:=hU (Below.put HB.out hp (by omega))
    replace HK:=pO hp HK
    replace HC:=pO hp HC
    replace HF:=pO hp HF
    replace HR:=pO hp HR
    have HZ2:=pA hp
    clear hp HZ)
  |(refine wpList_load (t:=65) (v:=.agg #[.int .i64 hs,.slice ha 1 hc]) rfl rfl rfl (run_load_whole aggHeap HZ2.out rfl) ?_)
  |(refine wpList_store (t:=65) (v:=.agg #[.int .i64 hs,.slice ha 1 hc]) (off:=5) (new:=(KC (.slice none 0 0) (.slice none 0 0) (.slice none 0 0) (.slice ha 1 hc) iv ov nv bx 0 hs now 0)) rfl rfl rfl rfl aggHeap.size HK.out rfl (show 5 + 2≤17 by decide) (ones2V hs (.slice ha 1 hc) rfl) rfl ?_;intro Wn hp
    replace HO1:=ownP HO1 hp HK
    replace HB:=hU (Below.put HB.out hp (Nat.le_refl _))
    replace HC:=pO hp HC
    replace HF:=pO hp HF
    replace HR:=pO hp HR
    have HK2:=pA hp
    have f4:Wn.cell? ⟨w.heap.size,4,none⟩=some (.slice none 0 0):=hcell HK2.out 4
    clear hp HK HZ2)
  |(refine wpList_load (t:=216) (v:=.agg #[.int .i64 0,.bool false,.int .i64 0,.bool false,.int .i64 0,.bool false,.int .i64 0,.bool false]) rfl rfl rfl (run_load_whole aggFds HF.out rfl) ?_)
  |go_values|go_skip|go_guarded|(with_reducible refine wg ?_)|go_step|go_upon)
 refine (Rcount0 1 _).mono ?_
 rintro er Wn ⟨rfl,hb⟩
 replace HK2:=nB hb HK2
 replace HC:=nB hb HC
 replace HF:=nB hb HF
 replace HR:=nB hb HR
 replace HB:=nW hb HB
 replace HO1:=ownB hb HO1
 clear hb f4
 dsimp only
 repeat' (first
  |(refine wpList_store (t:=62) (v:=.slice none 0 0) (off:=4) (new:=(KC (.slice none 0 0) (.slice none 0 0) (.slice none 0 0) (.slice ha 1 hc) iv ov nv bx 0 hs now 0)) rfl rfl rfl rfl oneSPipe.size HK2.out rfl (show 4 + 1≤17 by decide) (by intro u hu;simp [Value.cells] at hu;subst hu;rfl) rfl ?_;intro Wn hp
    replace HO1:=ownP HO1 hp HK2
    replace HB:=hU (Below.put HB.out hp (Nat.le_refl _))
    replace HC:=pO hp HC
    replace HF:=pO hp HF
    replace HR:=pO hp HR
    have HK3:=pA hp
    have f0:Wn.cell? ⟨w.heap.size,0,none⟩=some (.slice none 0 0):=hcell HK3.out 0
    clear hp HK2)
  |(refine wpList_load (t:=213) (v:=.agg #[.int .u32 0,.int .u32 0,.int .u32 0,.int .u32 0,.int .u32 0,.int .u32 0,.int .u32 0,.int .u32 0,.int .u32 0]) rfl rfl rfl (run_load_whole aggCpu HC.out rfl) ?_)
  |(refine wpList_load (t:=216) (v:=.agg #[.int .i64 0,.bool false,.int .i64 0,.bool false,.int .i64 0,.bool false,.int .i64 0,.bool false]) rfl rfl rfl (run_load_whole aggFds HF.out rfl) ?_)
  |go_values|go_skip|go_guarded|(with_reducible refine wg ?_)|go_step|go_upon)
 refine (RPut0 (born {Proc.zero with mem:=m} 1) _).mono ?_
 rintro er Wn ⟨pv,rfl,hown,hb⟩
 obtain ⟨pa,pc,hve,_,_⟩:=(hown.sl szProc).shape
 replace hve:pv=.slice pa 1 pc:=hve
 subst hve
 replace hown:=KR.Own.mono hown HB.out.size
 have HO2:=hU hown
 replace HK3:=nB hb HK3
 replace HC:=nB hb HC
 replace HF:=nB hb HF
 replace HR:=nB hb HR
 replace HB:=nW hb HB
 replace HO1:=ownB hb HO1
 clear hb hown f0
 dsimp only
 repeat' (first
  |(refine wpList_store (t:=57) (v:=.slice pa 1 pc) (off:=0) (new:=(KC (.slice pa 1 pc) (.slice none 0 0) (.slice none 0 0) (.slice ha 1 hc) iv ov nv bx 0 hs now 0)) rfl rfl rfl rfl oneSProc.size HK3.out rfl (show 0 + 1≤17 by decide) (by intro u hu;simp [Value.cells] at hu;subst hu;rfl) rfl ?_;intro Wn hp
    replace HO1:=ownP HO1 hp HK3
    replace HO2:=ownP HO2 hp HK3
    replace HB:=hU (Below.put HB.out hp (Nat.le_refl _))
    replace HR:=pO hp HR
    have HK4:=pA hp
    clear hp HK3 HC HF)
  |(refine wpList_load (t:=60) (v:=.agg #[.slice none 0 0,.int .i64 0]) rfl rfl rfl (run_load_part aggTurn HK4.out rfl rfl) ?_)
  |go_values|go_skip|go_guarded|(with_reducible refine wg ?_)|go_step|go_upon)
 refine (RAdd0 1 _).mono ?_
 rintro er Wn ⟨tv,rfl,hown,hb⟩
 obtain ⟨ta,tc,hve,_,_⟩:=(hown.sl szInt).shape
 replace hve:tv=.slice ta 1 tc:=hve
 subst hve
 replace hown:=KR.Own.mono hown HB.out.size
 have HO3:=hU hown
 replace HK4:=nB hb HK4
 replace HR:=nB hb HR
 replace HB:=nW hb HB
 replace HO1:=ownB hb HO1
 replace HO2:=ownB hb HO2
 clear hb hown
 dsimp only
 obtain ⟨h5,h6,h7,h8⟩:=HON.out
 repeat' (first
  |(refine wpList_store (t:=60) (v:=.agg #[.slice ta 1 tc,.int .i64 5]) (off:=1) (new:=(KC (.slice pa 1 pc) (.slice ta 1 tc) (.slice none 0 0) (.slice ha 1 hc) iv ov nv bx 5 hs now 0)) rfl rfl rfl rfl aggTurn.size HK4.out rfl (show 1 + 2≤17 by decide) (ones2T (.slice ta 1 tc) rfl 5) rfl ?_;intro Wn hp
    replace HO1:=ownP HO1 hp HK4
    replace HO2:=ownP HO2 hp HK4
    replace HO3:=ownP HO3 hp HK4
    replace HB:=hU (Below.put HB.out hp (Nat.le_refl _))
    replace HR:=pO hp HR
    have HK5:=pA hp
    clear hp HK4)
  |(refine wpList_load (t:=70) (v:=.agg (KC (.slice pa 1 pc) (.slice ta 1 tc) (.slice none 0 0) (.slice ha 1 hc) iv ov nv bx 5 hs now 0)) rfl rfl rfl (run_load_whole aggKern HK5.out rfl) ?_)
  |(refine wpList_store (t:=70) (v:=.agg (KC (.slice pa 1 pc) (.slice ta 1 tc) (.slice none 0 0) (.slice ha 1 hc) iv ov nv bx 5 hs now 0)) (off:=0) (new:=(KC (.slice pa 1 pc) (.slice ta 1 tc) (.slice none 0 0) (.slice ha 1 hc) iv ov nv bx 5 hs now 0)) rfl rfl rfl rfl aggKern.size HR.out rfl (show 0 + 17≤17 by decide) (onesKC rfl rfl rfl rfl h5 h6 h7 h8) rfl ?_;intro Wn hp
    replace HO1:=ownP HO1 hp HR
    replace HO2:=ownP HO2 hp HR
    replace HO3:=ownP HO3 hp HR
    replace HB:=hU (Below.put HB.out hp (by omega))
    have HR2:=pA hp
    clear hp HR)
  |go_values|go_skip|go_guarded|(with_reducible refine wg ?_)|go_step|go_upon)
 (try simp only [Exit.inBlock,Exit.then]);refine bodyPost_ret (res_cell_tmp2 Tryz.results97 aggKern rfl HR2.out rfl) rfl ?_
 exact ⟨_,_,_,rfl,HO2.out,HO3.out,HO1.out,HB.out⟩
theorem RfreshN (iv ov nv bx:Value) (hs now:Int) (m:ByteArray) (w:World) (h5:iv.oneCell'=true) (h6:ov.oneCell'=true) (h7:nv.oneCell'=true) (h8:bx.oneCell'=true) (h0:0≤hs) (hn:hs<64) (hm:hs≤9223372036854775807):Calls Tryz.prog 97 #[.agg (KC (.slice none 0 0) (.slice none 0 0) (.slice none 0 0) (.slice none 0 0) iv ov nv bx 0 hs now 0),.int .i64 0,.agg #[.int .u32 0,.int .u32 0,.int .u32 0,.int .u32 0,.int .u32 0,.int .u32 0,.int .u32 0,.int .u32 0,.int .u32 0],.string m,.agg #[.int .i64 0,.bool false,.int .i64 0,.bool false,.int .i64 0,.bool false,.int .i64 0,.bool false]] w (fun e w'=> e=.returned (.tuple #[.agg (KC (.slice none 0 0) (.slice none 0 0) (.slice none 0 0) (.slice none 0 0) iv ov nv bx 0 hs now 0),.int .i64 0,.int .i64 5])∧Below w.heap.size w w'):=by
 obtain ⟨q0,q1,q2,q3⟩:=four_newR w (.cells (KC (.slice none 0 0) (.slice none 0 0) (.slice none 0 0) (.slice none 0 0) iv ov nv bx 0 hs now 0) 70) (.cells #[.int .u32 0,.int .u32 0,.int .u32 0,.int .u32 0,.int .u32 0,.int .u32 0,.int .u32 0,.int .u32 0,.int .u32 0] 213) (.cells #[.int .i64 0,.bool false,.int .i64 0,.bool false,.int .i64 0,.bool false,.int .i64 0,.bool false] 216) (.cells #[.slice none 0 0,.slice none 0 0,.int .i64 0,.slice none 0 0,.slice none 0 0,.int .i64 0,.slice none 0 0,.int .u64 0,.slice none 0 0,.slice none 0 0,.slice none 0 0,.slice none 0 0,.string ⟨#[]⟩,.slice none 0 0,.slice none 0 0,.int .i64 0,.int .i64 0] 70)
 have hb0:Below w.heap.size w ((((w.alloc (.cells (KC (.slice none 0 0) (.slice none 0 0) (.slice none 0 0) (.slice none 0 0) iv ov nv bx 0 hs now 0) 70)).alloc (.cells #[.int .u32 0,.int .u32 0,.int .u32 0,.int .u32 0,.int .u32 0,.int .u32 0,.int .u32 0,.int .u32 0,.int .u32 0] 213)).alloc (.cells #[.int .i64 0,.bool false,.int .i64 0,.bool false,.int .i64 0,.bool false,.int .i64 0,.bool false] 216)).alloc (.cells #[.slice none 0 0,.slice none 0 0,.int .i64 0,.slice none 0 0,.slice none 0 0,.int .i64 0,.slice none 0 0,.int .u64 0,.slice none 0 0,.slice none 0 0,.slice none 0 0,.slice none 0 0,.string ⟨#[]⟩,.slice none 0 0,.slice none 0 0,.int .i64 0,.int .i64 0] 70)):=bel
 obtain ⟨Wn,hW0⟩:=exW ((((w.alloc (.cells (KC (.slice none 0 0) (.slice none 0 0) (.slice none 0 0) (.slice none 0 0) iv ov nv bx 0 hs now 0) 70)).alloc (.cells #[.int .u32 0,.int .u32 0,.int .u32 0,.int .u32 0,.int .u32 0,.int .u32 0,.int .u32 0,.int .u32 0,.int .u32 0] 213)).alloc (.cells #[.int .i64 0,.bool false,.int .i64 0,.bool false,.int .i64 0,.bool false,.int .i64 0,.bool false] 216)).alloc (.cells #[.slice none 0 0,.slice none 0 0,.int .i64 0,.slice none 0 0,.slice none 0 0,.int .i64 0,.slice none 0 0,.int .u64 0,.slice none 0 0,.slice none 0 0,.slice none 0 0,.slice none 0 0,.string ⟨#[]⟩,.slice none 0 0,.slice none 0 0,.int .i64 0,.int .i64 0] 70))
 rw [hW0] at q0 q1 q2 q3 hb0
 have HK:=hU q0
 have HC:=hU q1
 have HF:=hU q2
 have HR:=hU q3
 have HB:=hU hb0
 clear q0 q1 q2 q3 hb0
 have HON:=hU (And.intro h5 (And.intro h6 (And.intro h7 h8)))
 clear h5 h6 h7 h8
 have f0:Wn.cell? ⟨w.heap.size,0,none⟩=some (.slice none 0 0):=hcell HK.out 0
 have d0:decide ((6:Int)≤0)=false:=by decide
 go_enter Tryz.func97,Tryz.ntmps97
 repeat' (first|(rw [hW0];clear hW0)|go_values|go_skip|go_guarded|(with_reducible refine wg ?_)|go_step|go_upon)
 refine (RNext0 _).mono ?_
 rintro er Wx ⟨rfl,rfl⟩
 dsimp only
 clear f0 d0
 repeat' (first
  |(refine wpList_load (t:=65) (v:=.agg #[.int .i64 hs,.slice none 0 0]) rfl rfl rfl (run_load_part aggHeap HK.out rfl rfl) ?_)
  |go_values|go_skip|go_guarded|(with_reducible refine wg ?_)|go_step|go_upon)
 refine (RTakeN hs 1 h0 hn hm _).mono ?_
 rintro er Wn ⟨rfl,hb⟩
 replace HK:=nB hb HK
 replace HR:=nB hb HR
 replace HB:=nW hb HB
 clear hb HC HF
 dsimp only
 obtain ⟨b4,hab,hbz⟩:=nbz HB
 have hb4:=nlt HR hab
 obtain ⟨Wa,hWa,hba,HZ⟩:=nb1 (W:=Wn) (.cells #[.int .i64 0,.slice none 0 0] 65) hab
 have e1:((5:Int) !=0)=true:=by decide
 replace HK:=nB hba HK
 replace HR:=nB hba HR
 replace HB:=nW hba HB
 clear hba
 obtain ⟨h5,h6,h7,h8⟩:=HON.out
 repeat' (first
  |(rw [hWa,hab];clear hWa hab)
  |(refine wpList_store (t:=65) (v:=.agg #[.int .i64 hs,.slice none 0 0]) (off:=0) (new:=#[.int .i64 hs,.slice none 0 0]) rfl rfl rfl rfl aggHeap.size HZ.out rfl (show 0 + 2≤2 by decide) (ones2V hs (.slice none 0 0) rfl) rfl ?_;intro Wn hp
    replace HB:=hU (Below.put HB.out hp (by omega))
    replace HK:=pO hp HK
    replace HR:=pO hp HR
    clear hp HZ)
  |(refine wpList_load (t:=70) (v:=.agg (KC (.slice none 0 0) (.slice none 0 0) (.slice none 0 0) (.slice none 0 0) iv ov nv bx 0 hs now 0)) rfl rfl rfl (run_load_whole aggKern HK.out rfl) ?_)
  |(refine wpList_store (t:=70) (v:=.agg (KC (.slice none 0 0) (.slice none 0 0) (.slice none 0 0) (.slice none 0 0) iv ov nv bx 0 hs now 0)) (off:=0) (new:=(KC (.slice none 0 0) (.slice none 0 0) (.slice none 0 0) (.slice none 0 0) iv ov nv bx 0 hs now 0)) rfl rfl rfl rfl aggKern.size HR.out rfl (show 0 + 17≤17 by decide) (onesKC rfl rfl rfl rfl h5 h6 h7 h8) rfl ?_;intro Wn hp
    replace HB:=hU (Below.put HB.out hp (by omega))
    have HR2:=pA hp
    clear hp HR)
  |go_values|go_skip|go_guarded|(with_reducible refine wg ?_)|go_step|go_upon)
 (try simp only [Exit.inBlock,Exit.then]);refine bodyPost_ret (res_cell_tmp2 Tryz.results97 aggKern rfl HR2.out rfl) rfl ?_
 exact ⟨rfl,HB.out⟩
end Rf
end Go.Proofs.YthgehdghihbiaaaGreatDoor
