/- transomref05.counted: how many follow, at most so many. Condition: bytes are as many as a string can have. -/
import Derived.Test.YthgehdghihbiaaaGreatDoorPlanRefTakes
set_option linter.unusedVariables false
set_option maxRecDepth 100000
set_option maxHeartbeats 8000000
set_option linter.unusedSimpArgs false
namespace Go.Proofs.YthgehdghihbiaaaGreatDoor
open Go.RowKit
namespace RfT
theorem own_cells {W:World} {B n:Nat} {v:Value} {xs:List Int} (h:W.ownsRow B 3 1 v n (intCells xs)) (hn:xs.length=n) (h0:0<n):∃ g cap,v=.slice (some ⟨g,0,none⟩) n cap∧B≤g∧g<W.heap.size∧∀ j,j<n→W.cell? ⟨g,j,none⟩=some (.int .i64 (xs.getD j 0)):=by
 rcases h.2 with ⟨_,h1⟩|⟨g,cap,cur,rfl,hb,hg,hnc,hm,hc,ht⟩
 · omega
 · refine ⟨g,cap,rfl,hb,(Array.getElem?_eq_some_iff.1 hg).1,fun j hj=> ?_⟩
   rw [Lib.cell_of_heap hg]
   have h1:cur.toList[j]? =(cur.toList.take (n * 1))[j]? :=by rw [List.getElem?_take_of_lt (by omega)]
   rw [← Array.getElem?_toList,h1,ht]
   have hj':j<xs.length:=by omega
   simp [intCells,List.getD_eq_getElem?_getD,List.getElem?_eq_getElem hj']
theorem num_rel (m:Nat) (st:Pl.St):(∃ c,(Pl.numS 65536 st).2=.error c∧Pl.numS m st=(0,.error c))∨∃ (k:Nat) (t:List UInt8),Pl.numS 65536 st=((k:Int),.ok t)∧k≤65535∧Pl.numS m st=if m<k then (0,.error 4) else ((k:Int),.ok t):=by
 match st with
 | .error c=> exact .inl ⟨c,rfl,rfl⟩
 | .ok []=> exact .inl ⟨2,rfl,rfl⟩
 | .ok [x]=> exact .inl ⟨2,rfl,rfl⟩
 | .ok (a::b::t)=>
   have ha:=a.toNat_lt
   have hb:=b.toNat_lt
   refine .inr ⟨a.toNat * 256 + b.toNat,t,?_,by omega,?_⟩
   · simp only [Pl.numS,Pl.num]
     rw [if_neg (by omega)]
   · simp only [Pl.numS,Pl.num]
     by_cases h:m<a.toNat * 256 + b.toNat
     · rw [if_pos h,if_pos h]
     · rw [if_neg h,if_neg h]
theorem anys_one (st:Pl.St):Pl.anysS 1 st=([(Pl.numS 65536 st).1],(Pl.numS 65536 st).2):=rfl
def Count (m:Nat) (st:Pl.St) (w:World) (e:Ending) (W:World):Prop:=
 ∃ a n c rest bad,e=.returned (.tuple #[.agg #[.slice a n c,.string rest,.int .i64 bad],.int .i64 (Pl.numS m st).1])∧Below w.heap.size w W∧PS (Pl.numS m st).2 rest bad
theorem resC {W:World} {b:Nat} {tmps:Array Value} {x0 x1 x2 e:Value} (hh:W.heap[b]? =some (.cells #[x0,x1,x2] 117 (0,0))) (h4:tmps.getD 4 undef=.pointer (some ⟨b,0,none⟩)) (h5:tmps.getD 5 undef=e):
 (results Tryz.f35 tmps).run Tryz.prog W=.ok (.tuple #[.agg #[x0,x1,x2],e]) W:=by
 have c0:W.cell? ⟨b,0,none⟩=some x0:=Rdr.heap_cell hh 0
 have c1:W.cell? ⟨b,1,none⟩=some x1:=Rdr.heap_cell hh 1
 have c2:W.cell? ⟨b,2,none⟩=some x2:=Rdr.heap_cell hh 2
 rw [results_cell_tmp Tryz.results35,h4,h5]
 go_simp
theorem counted (m:Nat) (a0:Option Addr) (n0 c0:Nat) (rest:ByteArray) (bad:Int) (st:Pl.St) (w:World) (hm:m≤65536) (hs:PS st rest bad):
 Calls Tryz.prog 35 #[.agg #[.slice a0 n0 c0,.string rest,.int .i64 bad],.int .i64 (m:Int)] w (Count m st w):=by
 have HT:=hU (fun W=> takes 1 _ rest bad st W (by omega) hs a0 n0 c0 rfl)
 rcases num_rel m st with ⟨c,h1,h2⟩|⟨k,t,h1,hk,h2⟩
 · have H1:=hU h1
   have H2:=hU h2
   clear h1 h2
   go_enter Tryz.func35,Tryz.ntmps35
   repeat' (first|go_values|go_skip|go_guarded|(with_reducible refine wg ?_)|go_step|go_upon|go_quiet (fail))
   refine (HT.out _).mono ?_
   rintro ev w1 ⟨nv,rest',bad',rfl,hb1,hps,hor⟩
   rw [anys_one,H1.out] at hps
   obtain ⟨rfl,hc⟩:=hps
   obtain ⟨_,rfl⟩:=hor.resolve_right (fun h=> hc (by have:=h.1;omega))
   clear hor
   have hres:w1.heap[w.heap.size + 1]? =some (.cells #[.slice none 0 0,.string ByteArray.empty,.int .i64 0] 117 (0,0)):=(hb1.block _ (by simp)).trans (by
    have:=Rdr.heap_new (w.alloc (.cells #[.slice a0 n0 c0,.string rest,.int .i64 bad] 117)) (.cells #[.slice none 0 0,.string ByteArray.empty,.int .i64 0] 117)
    rw [Tk.alloc_size1'] at this
    exact this)
   obtain ⟨hc1,hf1,hz1⟩:=bfacts hb1
   simp at hz1
   have y1:w.heap.size<w1.heap.size:=by omega
   have y2:w.heap.size + 1<w1.heap.size:=by omega
   have hb0:Below w.heap.size w w1:=bel
   have r0:w1.cell? ⟨w.heap.size + 1,0,none⟩=some (.slice none 0 0):=Rdr.heap_cell hres 0
   have r1:w1.cell? ⟨w.heap.size + 1,1,none⟩=some (.string ByteArray.empty):=Rdr.heap_cell hres 1
   have r2:w1.cell? ⟨w.heap.size + 1,2,none⟩=some (.int .i64 0):=Rdr.heap_cell hres 2
   have g0:=Lib.frozen_of_heap hres 0
   have g1:=Lib.frozen_of_heap hres 1
   have g2:=Lib.frozen_of_heap hres 2
   have HB:=hU ((bel3 hb0 (b:=w.heap.size + 1) (by omega) (.slice none 0 0) (.string rest') (.int .i64 c)).alloc (by simp [World.setCell];omega) (.cells #[.slice none 0 0,.string rest',.int .i64 c] 117))
   have HS:=hU (Rdr.heap_old (o:=.cells #[.slice none 0 0,.string rest',.int .i64 c] 117) (set3 (x0:=.slice none 0 0) (x1:=.string rest') (x2:=.int .i64 c) hres))
   have hcI:((c:Int)==0)=false:=by simp;omega
   have hcJ:((c:Int) !=0)=true:=by simp;omega
   have hy:w.heap.size + 1<w1.heap.size:=y2
   dsimp only
   repeat' (first|go_values|go_skip|go_guarded|(with_reducible refine wg ?_)|go_step|go_upon|go_quiet (fail))
   (try simp only [Exit.inBlock,Exit.then]);refine bodyPost_ret (resC HS.out rfl rfl) rfl ?_
   exact ⟨none,0,0,rest',c,by rw [H2.out];first|done|rfl,HB.out,by rw [H2.out];exact ⟨rfl,hc⟩⟩
 · have H1:=hU h1
   have H2:=hU h2
   clear h1 h2
   go_enter Tryz.func35,Tryz.ntmps35
   repeat' (first|go_values|go_skip|go_guarded|(with_reducible refine wg ?_)|go_step|go_upon|go_quiet (fail))
   refine (HT.out _).mono ?_
   rintro ev w1 ⟨nv,rest',bad',rfl,hb1,hps,hor⟩
   rw [anys_one,H1.out] at hps hor
   obtain ⟨rfl,ht,hz⟩:=hps
   obtain ⟨_,hown⟩:=hor.resolve_left (fun h=> h.1 rfl)
   clear hor
   obtain ⟨g,cap,rfl,hg0,hgl,hcell⟩:=own_cells hown rfl (by omega)
   have n0c:w1.cell? ⟨g,0,none⟩=some (.int .i64 (k:Int)):=hcell 0 (by omega)
   simp at hg0
   have hne:g ≠ w.heap.size + 1:=by omega
   have hne':w.heap.size + 1 ≠ g:=by omega
   clear hcell hown
   have hres:w1.heap[w.heap.size + 1]? =some (.cells #[.slice none 0 0,.string ByteArray.empty,.int .i64 0] 117 (0,0)):=(hb1.block _ (by simp)).trans (by
    have:=Rdr.heap_new (w.alloc (.cells #[.slice a0 n0 c0,.string rest,.int .i64 bad] 117)) (.cells #[.slice none 0 0,.string ByteArray.empty,.int .i64 0] 117)
    rw [Tk.alloc_size1'] at this
    exact this)
   obtain ⟨hc1,hf1,hz1⟩:=bfacts hb1
   simp at hz1
   have y1:w.heap.size<w1.heap.size:=by omega
   have y2:w.heap.size + 1<w1.heap.size:=by omega
   have hb0:Below w.heap.size w w1:=bel
   have r0:w1.cell? ⟨w.heap.size + 1,0,none⟩=some (.slice none 0 0):=Rdr.heap_cell hres 0
   have r1:w1.cell? ⟨w.heap.size + 1,1,none⟩=some (.string ByteArray.empty):=Rdr.heap_cell hres 1
   have r2:w1.cell? ⟨w.heap.size + 1,2,none⟩=some (.int .i64 0):=Rdr.heap_cell hres 2
   have g0:=Lib.frozen_of_heap hres 0
   have g1:=Lib.frozen_of_heap hres 1
   have g2:=Lib.frozen_of_heap hres 2
   by_cases hmk:m<k
   · have hmI:(m:Int)<k:=by omega
     have HB:=hU ((bel3 hb0 (b:=w.heap.size + 1) (by omega) (.slice none 0 0) (.string ByteArray.empty) (.int .i64 4)).alloc (by simp [World.setCell];omega) (.cells #[.slice (some ⟨g,0,none⟩) 1 cap,.string rest',.int .i64 0] 117))
     have HS:=hU (Rdr.heap_old (o:=.cells #[.slice (some ⟨g,0,none⟩) 1 cap,.string rest',.int .i64 0] 117) (set3 (x0:=.slice none 0 0) (x1:=.string ByteArray.empty) (x2:=.int .i64 4) hres))
     dsimp only
     repeat' (first|go_values|go_skip|go_guarded|(with_reducible refine wg ?_)|go_step|go_upon|go_quiet (fail))
     (try simp only [Exit.inBlock,Exit.then]);refine bodyPost_ret (resC HS.out rfl rfl) rfl ?_
     exact ⟨none,0,0,ByteArray.empty,4,by rw [H2.out,if_pos hmk];first|done|rfl,HB.out,by rw [H2.out,if_pos hmk];exact ⟨rfl,by decide⟩⟩
   · have hmI:¬ (m:Int)<k:=by omega
     have HB:=hU ((bel3 hb0 (b:=w.heap.size + 1) (by omega) (.slice (some ⟨g,0,none⟩) 1 cap) (.string rest') (.int .i64 0)).alloc (by simp [World.setCell];omega) (.cells #[.slice (some ⟨g,0,none⟩) 1 cap,.string rest',.int .i64 0] 117))
     have HS:=hU (Rdr.heap_old (o:=.cells #[.slice (some ⟨g,0,none⟩) 1 cap,.string rest',.int .i64 0] 117) (set3 (x0:=.slice (some ⟨g,0,none⟩) 1 cap) (x1:=.string rest') (x2:=.int .i64 0) hres))
     dsimp only
     repeat' (first|go_values|go_skip|go_guarded|(with_reducible refine wg ?_)|go_step|go_upon|go_quiet (fail))
     go_region
     repeat' (first|go_values|go_skip|go_guarded|(with_reducible refine wg ?_)|go_step|go_upon|go_quiet (fail))
     (try simp only [Exit.inBlock,Exit.then]);refine bodyPost_ret (resC (b:=w.heap.size + 1) HS.out rfl rfl) rfl ?_
     exact ⟨some ⟨g,0,none⟩,1,cap,rest',0,by rw [H2.out,if_neg hmk];first|done|rfl,Below.drew HB.out,by rw [H2.out,if_neg hmk];exact ⟨rfl,ht,hz⟩⟩
end RfT
end Go.Proofs.YthgehdghihbiaaaGreatDoor
