/- cpu.Does at division, and where it refuses. Condition: the registers are words. -/
import Derived.Test.YtfncknignkndiaaGreatDoorGCp0
set_option linter.unusedVariables false
set_option maxRecDepth 100000
set_option maxHeartbeats 8000000
set_option linter.unusedSimpArgs false
namespace Go.Proofs.YtfncknignkndiaaGreatDoor
open Tryz
open Go.RowKit
namespace Does
variable (op a b i r0 r1 r2 r3 r4 r5 r6 r7 pc ra rb:Int) (w:World)
theorem go7z (hT:Tab w) (hz:rb=0) (h0:0≤a) (h1:a<8) (h2:0≤b) (h3:b<8) (hm:Hid (Cp.may 7 a b i=true)) (p0:0≤ra) (p1:ra<4294967296) (p2:0≤rb) (p3:rb<4294967296)
 (ha:[Value.int .u32 r0,.int .u32 r1,.int .u32 r2,.int .u32 r3,.int .u32 r4,.int .u32 r5,.int .u32 r6,.int .u32 r7,.int .u32 pc][a.toNat]? =some (.int .u32 ra))
 (hb:[Value.int .u32 r0,.int .u32 r1,.int .u32 r2,.int .u32 r3,.int .u32 r4,.int .u32 r5,.int .u32 r6,.int .u32 r7,.int .u32 pc][b.toNat]? =some (.int .u32 rb)):
  Calls prog 133 #[.agg #[.int .u32 r0,.int .u32 r1,.int .u32 r2,.int .u32 r3,.int .u32 r4,.int .u32 r5,.int .u32 r6,.int .u32 r7,.int .u32 pc],.agg #[.int .i64 7,.int .i64 a,.int .i64 b,.int .i64 i]] w
   (aN (.tuple #[Cp.oE ([r0,r1,r2,r3,r4,r5,r6,r7].set a.toNat (Cp.val 7 ra rb (i % 4294967296) pc)) (Cp.nxt 7 ra rb (i % 4294967296) pc),.bool true]) w):=by
 subst hz;have z02:w.heap.size<w.heap.size + 1 + 1:=by omega
 have z03:w.heap.size<w.heap.size + 1 + 1 + 1:=by omega
 have z13:w.heap.size + 1<w.heap.size + 1 + 1 + 1:=by omega
 go_in;go_wp2_with (go_at_call 183;refine Calls.mono (nN _ _ _ _ _ ?_) ?_;(exact hT.below bel);rintro e w1 ⟨rfl,hb1⟩;rw [hm.out];obtain ⟨hc1,hf1,hz1⟩:=dM hb1;simp at hz1)
 go_quiet (fail)
 go_wp2_with (fail)
 go_quiet (fail)
 have hcs:∀ o,w1.cell? ⟨w.heap.size,o,none⟩=([r0,r1,r2,r3,r4,r5,r6,r7,pc].map (Value.int .u32))[o]? :=by
  intro o;simp [hc1,z02,z03,World.cell?_alloc_past]
 have up0:=fun n v=> fC hcs a.toNat (by simp;omega) n v 0 (by simp);have up1:=fun n v=> fC hcs a.toNat (by simp;omega) n v 1 (by simp);have up2:=fun n v=> fC hcs a.toNat (by simp;omega) n v 2 (by simp);have up3:=fun n v=> fC hcs a.toNat (by simp;omega) n v 3 (by simp);have up4:=fun n v=> fC hcs a.toNat (by simp;omega) n v 4 (by simp);have up5:=fun n v=> fC hcs a.toNat (by simp;omega) n v 5 (by simp);have up6:=fun n v=> fC hcs a.toNat (by simp;omega) n v 6 (by simp);have up7:=fun n v=> fC hcs a.toNat (by simp;omega) n v 7 (by simp);have up8:=fun n v=> fC hcs a.toNat (by simp;omega) n v 8 (by simp);clear hcs;refine sg ?_;intros;all_goals (apply bodyPost_ret;(simp only [results,results133];go_simp;exact rfl);rfl)
 all_goals refine cF (Cp.tup (Cp.qH (by omega) ?_ ?_)) bel
 all_goals (first|rfl|(simp [Cp.val, *];done)|(simp [Cp.nxt, *];done)|(simp [Cp.val];omega)|(simp [Cp.nxt];omega)|(exact Cp.not0.trans (by simp [Cp.val]))|(simp only [Cp.iP _ p0 p1,Cp.iP _ p2 p3] at *;simp [Cp.nxt];omega))
theorem go7 (hT:Tab w) (hz:¬ rb=0) (hz':(rb==0)=false) (h0:0≤a) (h1:a<8) (h2:0≤b) (h3:b<8) (hm:Hid (Cp.may 7 a b i=true)) (p0:0≤ra) (p1:ra<4294967296) (p2:0≤rb) (p3:rb<4294967296)
 (ha:[Value.int .u32 r0,.int .u32 r1,.int .u32 r2,.int .u32 r3,.int .u32 r4,.int .u32 r5,.int .u32 r6,.int .u32 r7,.int .u32 pc][a.toNat]? =some (.int .u32 ra))
 (hb:[Value.int .u32 r0,.int .u32 r1,.int .u32 r2,.int .u32 r3,.int .u32 r4,.int .u32 r5,.int .u32 r6,.int .u32 r7,.int .u32 pc][b.toNat]? =some (.int .u32 rb)):
  Calls prog 133 #[.agg #[.int .u32 r0,.int .u32 r1,.int .u32 r2,.int .u32 r3,.int .u32 r4,.int .u32 r5,.int .u32 r6,.int .u32 r7,.int .u32 pc],.agg #[.int .i64 7,.int .i64 a,.int .i64 b,.int .i64 i]] w
   (aN (.tuple #[Cp.oE ([r0,r1,r2,r3,r4,r5,r6,r7].set a.toNat (Cp.val 7 ra rb (i % 4294967296) pc)) (Cp.nxt 7 ra rb (i % 4294967296) pc),.bool true]) w):=by
 have z02:w.heap.size<w.heap.size + 1 + 1:=by omega
 have z03:w.heap.size<w.heap.size + 1 + 1 + 1:=by omega
 have z13:w.heap.size + 1<w.heap.size + 1 + 1 + 1:=by omega
 go_in;go_wp2_with (go_at_call 183;refine Calls.mono (nN _ _ _ _ _ ?_) ?_;(exact hT.below bel);rintro e w1 ⟨rfl,hb1⟩;rw [hm.out];obtain ⟨hc1,hf1,hz1⟩:=dM hb1;simp at hz1)
 go_quiet (fail)
 go_wp2_with (fail)
 go_quiet (fail)
 have hcs:∀ o,w1.cell? ⟨w.heap.size,o,none⟩=([r0,r1,r2,r3,r4,r5,r6,r7,pc].map (Value.int .u32))[o]? :=by
  intro o;simp [hc1,z02,z03,World.cell?_alloc_past]
 have up0:=fun n v=> fC hcs a.toNat (by simp;omega) n v 0 (by simp);have up1:=fun n v=> fC hcs a.toNat (by simp;omega) n v 1 (by simp);have up2:=fun n v=> fC hcs a.toNat (by simp;omega) n v 2 (by simp);have up3:=fun n v=> fC hcs a.toNat (by simp;omega) n v 3 (by simp);have up4:=fun n v=> fC hcs a.toNat (by simp;omega) n v 4 (by simp);have up5:=fun n v=> fC hcs a.toNat (by simp;omega) n v 5 (by simp);have up6:=fun n v=> fC hcs a.toNat (by simp;omega) n v 6 (by simp);have up7:=fun n v=> fC hcs a.toNat (by simp;omega) n v 7 (by simp);have up8:=fun n v=> fC hcs a.toNat (by simp;omega) n v 8 (by simp);clear hcs;refine sg ?_;intros;all_goals (apply bodyPost_ret;(simp only [results,results133];go_simp;exact rfl);rfl)
 all_goals refine cF (Cp.tup (Cp.qH (by omega) ?_ ?_)) bel
 all_goals (first|rfl|(simp [Cp.val, *];done)|(simp [Cp.nxt, *];done)|(simp [Cp.val];omega)|(simp [Cp.nxt];omega)|(exact Cp.not0.trans (by simp [Cp.val]))|(simp only [Cp.iP _ p0 p1,Cp.iP _ p2 p3] at *;simp [Cp.nxt];omega))
theorem no (hT:Tab w) (hm:Hid (Cp.may op a b i=false)):
 Calls prog 133 #[.agg #[.int .u32 r0,.int .u32 r1,.int .u32 r2,.int .u32 r3,.int .u32 r4,.int .u32 r5,.int .u32 r6,.int .u32 r7,.int .u32 pc],.agg #[.int .i64 op,.int .i64 a,.int .i64 b,.int .i64 i]] w
  (aN (.tuple #[.agg #[.int .u32 r0,.int .u32 r1,.int .u32 r2,.int .u32 r3,.int .u32 r4,.int .u32 r5,.int .u32 r6,.int .u32 r7,.int .u32 pc],.bool false]) w):=by
 have z02:w.heap.size<w.heap.size + 1 + 1:=by omega
 have z03:w.heap.size<w.heap.size + 1 + 1 + 1:=by omega
 have z13:w.heap.size + 1<w.heap.size + 1 + 1 + 1:=by omega
 go_in;repeat' (first|(go_at_call 183;refine Calls.mono (nN _ _ _ _ _ ?_) ?_;(exact hT.below bel);rintro e w1 ⟨rfl,hb1⟩;rw [hm.out];obtain ⟨hc1,hf1,hz1⟩:=dM hb1;simp at hz1;dsimp only)|go_values|go_skip|go_guarded|(with_reducible refine wg ?_)|go_step|go_upon)
 all_goals (apply bodyPost_ret;(simp only [results,results133];go_simp;exact rfl);rfl)
 all_goals exact cF rfl bel
theorem xAc (k:Int) (hk:k=14∨k=15∨k=16∨k=17∨k=18∨k=24) (hT:Tab w) (h0:0≤a) (h1:a<8) (h2:0≤b) (h3:b<8) (hm:Hid (Cp.may k a b i=true))
 (ha:[Value.int .u32 r0,.int .u32 r1,.int .u32 r2,.int .u32 r3,.int .u32 r4,.int .u32 r5,.int .u32 r6,.int .u32 r7,.int .u32 pc][a.toNat]? =some (.int .u32 ra))
 (hb:[Value.int .u32 r0,.int .u32 r1,.int .u32 r2,.int .u32 r3,.int .u32 r4,.int .u32 r5,.int .u32 r6,.int .u32 r7,.int .u32 pc][b.toNat]? =some (.int .u32 rb)):
  Calls prog 133 #[.agg #[.int .u32 r0,.int .u32 r1,.int .u32 r2,.int .u32 r3,.int .u32 r4,.int .u32 r5,.int .u32 r6,.int .u32 r7,.int .u32 pc],.agg #[.int .i64 k,.int .i64 a,.int .i64 b,.int .i64 i]] w
   (aN (.tuple #[.agg #[.int .u32 r0,.int .u32 r1,.int .u32 r2,.int .u32 r3,.int .u32 r4,.int .u32 r5,.int .u32 r6,.int .u32 r7,.int .u32 (if (18:Int)=k then (pc + 4 * (i % 4294967296)) % 4294967296 else pc)],.bool (18==k)]) w):=by
 rcases hk with rfl|rfl|rfl|rfl|rfl|rfl
 all_goals
  have z02:w.heap.size<w.heap.size + 1 + 1:=by omega
  have z03:w.heap.size<w.heap.size + 1 + 1 + 1:=by omega
  have z13:w.heap.size + 1<w.heap.size + 1 + 1 + 1:=by omega
  go_in;go_wp2_with (go_at_call 183;refine Calls.mono (nN _ _ _ _ _ ?_) ?_;(exact hT.below bel);rintro e w1 ⟨rfl,hb1⟩;rw [hm.out];obtain ⟨hc1,hf1,hz1⟩:=dM hb1;simp at hz1)
  go_quiet (fail)
  go_wp2_with (fail)
  go_quiet (fail)
  refine sg ?_;intros;all_goals (apply bodyPost_ret;(simp only [results,results133];go_simp;exact rfl);rfl)
  all_goals exact cF (by simp) bel
