/- transomref14.Same answers true at two seats that read as one. No condition. -/
import Derived.Test.YthgehdghihbiaaaGreatDoorGSame
import Derived.Test.YthgehdghihbiaaaGreatDoorGSe0
set_option linter.unusedVariables false
set_option maxRecDepth 100000
set_option maxHeartbeats 8000000
set_option linter.unusedSimpArgs false
namespace Go.Proofs.YthgehdghihbiaaaGreatDoor
open Go.RowKit KR RegT3
namespace Kn
theorem SameSeat (va vb:Value) (s:Seat) (w:World) (h1:SeatV w va s) (h2:SeatV w vb s):Calls Tryz.prog 17 #[va,vb] w (Gives (.bool true) w):=by
 obtain ⟨ya,sa,rfl,hla⟩:=h1
 obtain ⟨yb,sb,rfl,hlb⟩:=h2
 obtain ⟨q0,q1⟩:=two_new w w.heap.size (.cells (scells ya s) 72) (.cells (scells yb s) 72) rfl
 have hb0:Below w.heap.size w ((w.alloc (.cells (scells ya s) 72)).alloc (.cells (scells yb s) 72)):=bel
 obtain ⟨W0,hW0⟩:=exW ((w.alloc (.cells (scells ya s) 72)).alloc (.cells (scells yb s) 72))
 rw [hW0] at q0 q1 hb0
 have HA_0:=hU q0
 have HR_0:=hU q1
 have HB_0:=hU hb0
 have e4:=SameKern (.agg (kcells ya s.k)) (.agg (kcells yb s.k)) s.k W0 ⟨ya,sa,rfl,hla.below hb0⟩ ⟨yb,sb,rfl,hlb.below hb0⟩
 have HST:=hU e4
 clear q0 q1 hb0 hla hlb e4
 go_enter Tryz.func17,Tryz.ntmps17
 repeat' (first
  |(rw [hW0];clear hW0)
  |(refine wpList_load (t:=70) (v:=.agg (kcells ya s.k)) rfl rfl rfl (run_load_part aggKern HA_0.out (scells_kern _ _) rfl) ?_)
  |(refine wpList_load (t:=70) (v:=.agg (kcells yb s.k)) rfl rfl rfl (run_load_part aggKern HR_0.out (scells_kern _ _) rfl) ?_)
  |go_values|go_skip|go_guarded|(with_reducible refine wg ?_)|go_step|go_upon)
 refine HST.out.mono ?_
 rintro er W1 ⟨rfl,hb1⟩
 have f1:W1.cell? ⟨w.heap.size,17,none⟩=some (.int .i64 s.st):=hcell (nB hb1 HA_0).out 17
 have f2:W1.cell? ⟨w.heap.size,18,none⟩=some (.int .i64 s.boots):=hcell (nB hb1 HA_0).out 18
 have f3:W1.cell? ⟨w.heap.size + 1,17,none⟩=some (.int .i64 s.st):=hcell (nB hb1 HR_0).out 17
 have f4:W1.cell? ⟨w.heap.size + 1,18,none⟩=some (.int .i64 s.boots):=hcell (nB hb1 HR_0).out 18
 have HB_1:=hU (HB_0.out.trans (hb1.mono HB_0.out.size))
 clear hb1
 dsimp only
 repeat' (first|go_values|go_skip|go_guarded|(with_reducible refine wg ?_)|go_step|go_upon)
 go_ret
 exact gives_of (by simp) HB_1.out
end Kn
end Go.Proofs.YthgehdghihbiaaaGreatDoor
