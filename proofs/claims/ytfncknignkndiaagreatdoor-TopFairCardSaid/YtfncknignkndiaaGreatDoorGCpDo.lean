/- cpu.Does at some more operations. Conditions: as told. -/
import Derived.Test.YtfncknignkndiaaGreatDoorGCp0
set_option linter.unusedVariables false
set_option maxRecDepth 100000
set_option maxHeartbeats 8000000
set_option linter.unusedSimpArgs false
namespace Go.Proofs.YtfncknignkndiaaGreatDoor
open Tryz
open Go.RowKit
namespace Does
variable (op a b i r0 r1 r2 r3 r4 r5 r6 r7 pc ra rb:Int) (w:World)
theorem goB (k:Int) (hk:k=10∨k=11∨k=12∨k=13∨k=19∨k=20∨k=21∨k=22∨k=23) (hT:Tab w) (h0:0≤a) (h1:a<8) (h2:0≤b) (h3:b<8) (hm:Hid (Cp.may k a b i=true)) (p0:0≤ra) (p1:ra<4294967296) (p2:0≤rb) (p3:rb<4294967296)
 (ha:[Value.int .u32 r0,.int .u32 r1,.int .u32 r2,.int .u32 r3,.int .u32 r4,.int .u32 r5,.int .u32 r6,.int .u32 r7,.int .u32 pc][a.toNat]? =some (.int .u32 ra))
 (hb:[Value.int .u32 r0,.int .u32 r1,.int .u32 r2,.int .u32 r3,.int .u32 r4,.int .u32 r5,.int .u32 r6,.int .u32 r7,.int .u32 pc][b.toNat]? =some (.int .u32 rb)):
  Calls prog 133 #[.agg #[.int .u32 r0,.int .u32 r1,.int .u32 r2,.int .u32 r3,.int .u32 r4,.int .u32 r5,.int .u32 r6,.int .u32 r7,.int .u32 pc],.agg #[.int .i64 k,.int .i64 a,.int .i64 b,.int .i64 i]] w
   (aN (.tuple #[Cp.oE ([r0,r1,r2,r3,r4,r5,r6,r7].set a.toNat (Cp.val k ra rb (i % 4294967296) pc)) (Cp.nxt k ra rb (i % 4294967296) pc),.bool true]) w):=by
 rcases hk with rfl|rfl|rfl|rfl|rfl|rfl|rfl|rfl|rfl
 all_goals
  have z02:w.heap.size<w.heap.size + 1 + 1:=by omega
  have z03:w.heap.size<w.heap.size + 1 + 1 + 1:=by omega
  have z13:w.heap.size + 1<w.heap.size + 1 + 1 + 1:=by omega
  go_in;go_wp2_with (go_at_call 183;refine Calls.mono (nN _ _ _ _ _ ?_) ?_;(exact hT.below bel);rintro e w1 ⟨rfl,hb1⟩;rw [hm.out];obtain ⟨hc1,hf1,hz1⟩:=dM hb1;simp at hz1)
  go_quiet (fail)
  go_wp2_with (fail)
  go_quiet (fail)
  have hcs:∀ o,w1.cell? ⟨w.heap.size,o,none⟩=([r0,r1,r2,r3,r4,r5,r6,r7,pc].map (Value.int .u32))[o]? :=by
   intro o;simp [hc1,z02,z03,World.cell?_alloc_past]
  have up0:=fun n v=> fC hcs a.toNat (by simp;omega) n v 0 (by simp);have up1:=fun n v=> fC hcs a.toNat (by simp;omega) n v 1 (by simp);have up2:=fun n v=> fC hcs a.toNat (by simp;omega) n v 2 (by simp);have up3:=fun n v=> fC hcs a.toNat (by simp;omega) n v 3 (by simp);have up4:=fun n v=> fC hcs a.toNat (by simp;omega) n v 4 (by simp);have up5:=fun n v=> fC hcs a.toNat (by simp;omega) n v 5 (by simp);have up6:=fun n v=> fC hcs a.toNat (by simp;omega) n v 6 (by simp);have up7:=fun n v=> fC hcs a.toNat (by simp;omega) n v 7 (by simp);have up8:=fun n v=> fC hcs a.toNat (by simp;omega) n v 8 (by simp);clear hcs;repeat' (first|go_values|go_skip|go_guarded|refine wg ?_|go_step|go_upon)
  all_goals (apply bodyPost_ret;(simp only [results,results133];go_simp;exact rfl);rfl)
  all_goals refine cF (Cp.tup (Cp.qH (by omega) ?_ ?_)) bel
  all_goals (first|rfl|(simp [Cp.val, *];done)|(simp [Cp.nxt, *];done)|(simp [Cp.val];omega)|(simp [Cp.nxt];omega)|(exact Cp.not0.trans (by simp [Cp.val]))|(simp only [Cp.iP _ p0 p1,Cp.iP _ p2 p3] at *;simp [Cp.nxt];omega))
end Does
namespace Does
variable (op a b i r0 r1 r2 r3 r4 r5 r6 r7 pc ra rb:Int) (w:World)
theorem goA (k:Int) (hk:k=1∨k=2∨k=3∨k=4∨k=5∨k=6∨k=8∨k=9) (hT:Tab w) (h0:0≤a) (h1:a<8) (h2:0≤b) (h3:b<8) (hm:Hid (Cp.may k a b i=true)) (p0:0≤ra) (p1:ra<4294967296) (p2:0≤rb) (p3:rb<4294967296)
 (ha:[Value.int .u32 r0,.int .u32 r1,.int .u32 r2,.int .u32 r3,.int .u32 r4,.int .u32 r5,.int .u32 r6,.int .u32 r7,.int .u32 pc][a.toNat]? =some (.int .u32 ra))
 (hb:[Value.int .u32 r0,.int .u32 r1,.int .u32 r2,.int .u32 r3,.int .u32 r4,.int .u32 r5,.int .u32 r6,.int .u32 r7,.int .u32 pc][b.toNat]? =some (.int .u32 rb)):
  Calls prog 133 #[.agg #[.int .u32 r0,.int .u32 r1,.int .u32 r2,.int .u32 r3,.int .u32 r4,.int .u32 r5,.int .u32 r6,.int .u32 r7,.int .u32 pc],.agg #[.int .i64 k,.int .i64 a,.int .i64 b,.int .i64 i]] w
   (aN (.tuple #[Cp.oE ([r0,r1,r2,r3,r4,r5,r6,r7].set a.toNat (Cp.val k ra rb (i % 4294967296) pc)) (Cp.nxt k ra rb (i % 4294967296) pc),.bool true]) w):=by
 rcases hk with rfl|rfl|rfl|rfl|rfl|rfl|rfl|rfl
 all_goals
  have z02:w.heap.size<w.heap.size + 1 + 1:=by omega
  have z03:w.heap.size<w.heap.size + 1 + 1 + 1:=by omega
  have z13:w.heap.size + 1<w.heap.size + 1 + 1 + 1:=by omega
  go_in;go_wp2_with (go_at_call 183;refine Calls.mono (nN _ _ _ _ _ ?_) ?_;(exact hT.below bel);rintro e w1 ⟨rfl,hb1⟩;rw [hm.out];obtain ⟨hc1,hf1,hz1⟩:=dM hb1;simp at hz1)
  go_quiet (fail)
  go_wp2_with (fail)
  go_quiet (fail)
  have hcs:∀ o,w1.cell? ⟨w.heap.size,o,none⟩=([r0,r1,r2,r3,r4,r5,r6,r7,pc].map (Value.int .u32))[o]? :=by
   intro o;simp [hc1,z02,z03,World.cell?_alloc_past]
  have up0:=fun n v=> fC hcs a.toNat (by simp;omega) n v 0 (by simp);have up1:=fun n v=> fC hcs a.toNat (by simp;omega) n v 1 (by simp);have up2:=fun n v=> fC hcs a.toNat (by simp;omega) n v 2 (by simp);have up3:=fun n v=> fC hcs a.toNat (by simp;omega) n v 3 (by simp);have up4:=fun n v=> fC hcs a.toNat (by simp;omega) n v 4 (by simp);have up5:=fun n v=> fC hcs a.toNat (by simp;omega) n v 5 (by simp);have up6:=fun n v=> fC hcs a.toNat (by simp;omega) n v 6 (by simp);have up7:=fun n v=> fC hcs a.toNat (by simp;omega) n v 7 (by simp);have up8:=fun n v=> fC hcs a.toNat (by simp;omega) n v 8 (by simp);clear hcs;refine sg ?_;intros;all_goals (apply bodyPost_ret;(simp only [results,results133];go_simp;exact rfl);rfl)
  all_goals refine cF (Cp.tup (Cp.qH (by omega) ?_ ?_)) bel
  all_goals (first|rfl|(simp [Cp.val, *];done)|(simp [Cp.nxt, *];done)|(simp [Cp.val];omega)|(simp [Cp.nxt];omega)|(exact Cp.not0.trans (by simp [Cp.val]))|(simp only [Cp.iP _ p0 p1,Cp.iP _ p2 p3] at *;simp [Cp.nxt];omega))
