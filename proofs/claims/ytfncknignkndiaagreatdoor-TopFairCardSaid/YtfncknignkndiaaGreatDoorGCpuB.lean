/- cpu.Step, where no instruction is found, and at a system call. Conditions: as told. -/
import Derived.Test.YtfncknignkndiaaGreatDoorGCpuA
import Derived.Test.YtfncknignkndiaaGreatDoorGSeg
set_option linter.unusedVariables false
set_option linter.unusedSimpArgs false
namespace Go.Proofs.YtfncknignkndiaaGreatDoor
open Tryz
open Go.RowKit
theorem fF {w:World} {O:Obj} {b o:Nat} (h:b<w.heap.size):(w.alloc O).cell? ⟨b,o,none⟩=w.cell? ⟨b,o,none⟩:=
 ((Below.refl w.heap.size w).alloc (Nat.le_refl _) O).cell (p:=⟨b,o,none⟩) h
theorem three {v v':Value} {s s':ByteArray} {t:Int} (h:v=v') (hs:s=s'):Value.tuple #[v,.string s,.int .i64 t]=.tuple #[v',.string s',.int .i64 t]:=by rw [h,hs]
theorem qA {w1:World} {B:Nat} {rs:List Int} (hc:∀ o,w1.cell? ⟨B,o,none⟩=(rs.map (Value.int .u32))[o]?) (k:Nat) (hk:k<rs.length) (x:Int) (j:Nat) (hj:j<rs.length):
 (w1.setCell ⟨B,k,none⟩ (.int .u32 x)).cell? ⟨B,j,none⟩=some (.int .u32 (Cp.upd rs k x j)):=Does.fC hc k hk 0 x j hj
theorem qEy {r0 r1 r2 r3 r4 r5 r6 r7 p x:Int} {k:Nat} (hk:k<8):Cp.upd [r0,r1,r2,r3,r4,r5,r6,r7,p] k x 8=p:=by
 have h':k=0∨k=1∨k=2∨k=3∨k=4∨k=5∨k=6∨k=7:=by omega
 rcases h' with rfl|rfl|rfl|rfl|rfl|rfl|rfl|rfl <;> simp [Cp.upd]
namespace Seg
theorem qHg (m:ByteArray) (a v:Int) (w:World) (hm:m.size≤140737488355328) (h0:0≤a) (h1:a<4294967296) (v0:0≤v) (v1:v<4294967296) (h:Sg.isWord m a=true):
 Calls prog 131 #[.string m,.int .u32 a,.int .u32 v] w (aN (.tuple #[.string (Sg.put m a.toNat (Sg.qF v)),.int .i64 0]) w):=by
 have:=qYx m a v w hm h0 h1 v0 v1
 unfold Sg.qIq Sg.qCu at this;rwa [if_pos h,if_pos h] at this
theorem qNm (m:ByteArray) (a v:Int) (w:World) (hm:m.size≤140737488355328) (h0:0≤a) (h1:a<4294967296) (v0:0≤v) (v1:v<4294967296) (h:Sg.has m a 1=true):
 Calls prog 132 #[.string m,.int .u32 a,.int .u32 v] w (aN (.tuple #[.string (Sg.put m a.toNat [UInt8.ofNat (v % 256).toNat]),.int .i64 0]) w):=by
 have:=Put m a v w hm h0 h1 v0 v1
 unfold Sg.putM Sg.xU at this;rwa [if_pos h,if_pos h] at this
theorem qVk (m:ByteArray) (a v:Int) (w:World) (hm:m.size≤140737488355328) (h0:0≤a) (h1:a<4294967296) (v0:0≤v) (v1:v<4294967296) (h:Sg.has m a 1=false):
 Calls prog 132 #[.string m,.int .u32 a,.int .u32 v] w (aN (.tuple #[.string m,.int .i64 10]) w):=by
 have:=Put m a v w hm h0 h1 v0 v1
 unfold Sg.putM Sg.xU at this;rwa [if_neg (by simp [h]),if_neg (by simp [h])] at this
theorem qNb (m:ByteArray) (a:Int) (w:World) (hm:m.size≤140737488355328) (h0:0≤a) (h1:a<4294967296) (h:Sg.has m a 1=true):
 Calls prog 130 #[.string m,.int .u32 a] w (Is (.tuple #[.int .u32 (Sg.byte m a.toNat),.int .i64 0]) w):=by
 have:=Byte m a w hm h0 h1
 unfold Sg.qJl Sg.xU at this;rwa [if_pos h,if_pos h] at this
theorem qQw (m:ByteArray) (a:Int) (w:World) (hm:m.size≤140737488355328) (h0:0≤a) (h1:a<4294967296) (h:Sg.has m a 1=false):
 Calls prog 130 #[.string m,.int .u32 a] w (Is (.tuple #[.int .u32 0,.int .i64 10]) w):=by
 have:=Byte m a w hm h0 h1
 unfold Sg.qJl Sg.xU at this;rwa [if_neg (by simp [h]),if_neg (by simp [h])] at this
theorem fT (m:ByteArray) (a:Int) (w:World) (hm:m.size≤140737488355328) (h0:0≤a) (h1:a<4294967296) (h:Sg.isWord m a=true):
 Calls prog 128 #[.string m,.int .u32 a] w (Is (.tuple #[.int .u32 (Sg.word m a.toNat),.int .i64 0]) w):=by
 have:=Load m a w hm h0 h1
 unfold Sg.qPk Sg.qCu at this;rwa [if_pos h,if_pos h] at this
end Seg
namespace Step
variable (r0 r1 r2 r3 r4 r5 r6 r7 pc:Int) (m:ByteArray) (w:World)
set_option maxHeartbeats 2000000 in
set_option maxRecDepth 100000 in
theorem fault (hm:m.size≤140737488355328) (p0:0≤pc) (p1:pc<4294967296) (h:Sg.isWord m pc=false):
 Calls prog 85 #[.agg #[.int .u32 r0,.int .u32 r1,.int .u32 r2,.int .u32 r3,.int .u32 r4,.int .u32 r5,.int .u32 r6,.int .u32 r7,.int .u32 pc],.string m] w (aN (.tuple #[.agg #[.int .u32 r0,.int .u32 r1,.int .u32 r2,.int .u32 r3,.int .u32 r4,.int .u32 r5,.int .u32 r6,.int .u32 r7,.int .u32 pc],.string m,.int .i64 2]) w):=by
 go_in;go_wp2_with (go_at_call 128;refine (Seg.qDo m pc _ hm p0 p1 h).mono ?_;rintro e w' ⟨rfl,rfl⟩)
 repeat' (first|go_values|go_skip|go_guarded|(with_reducible refine wg ?_)|go_step|go_upon)
 all_goals (apply bodyPost_ret;(simp only [results,results85];go_simp;exact rfl);rfl)
 all_goals exact cF rfl bel
set_option maxHeartbeats 2000000 in
set_option maxRecDepth 100000 in
theorem odd (x:Int) (hm:m.size≤140737488355328) (p0:0≤pc) (p1:pc<4294967296) (h:Sg.isWord m pc=true) (hx:Sg.word m pc.toNat=x) (ho:Cp.qW x=false) (hT:Tab w):
 Calls prog 85 #[.agg #[.int .u32 r0,.int .u32 r1,.int .u32 r2,.int .u32 r3,.int .u32 r4,.int .u32 r5,.int .u32 r6,.int .u32 r7,.int .u32 pc],.string m] w (aN (.tuple #[.agg #[.int .u32 r0,.int .u32 r1,.int .u32 r2,.int .u32 r3,.int .u32 r4,.int .u32 r5,.int .u32 r6,.int .u32 r7,.int .u32 pc],.string m,.int .i64 1]) w):=by
 have x0:=Sg.iT m pc.toNat;have x1:=Sg.iS m pc.toNat;have HL:=fun W=> Seg.fT m pc W hm p0 p1 h;rw [hx] at x0 x1 HL;have HT:=fun W hT=> Take.any x W x0 x1 hT;rw [qGx ho] at HT;have H1:=hU HL;have H2:=hU HT;clear HL HT hx h ho;have z02:w.heap.size<w.heap.size + 1 + 1:=by omega
 have z03:w.heap.size<w.heap.size + 1 + 1 + 1:=by omega
 have z13:w.heap.size + 1<w.heap.size + 1 + 1 + 1:=by omega
 go_in;repeat' (first|(go_at_call 128;refine Calls.mono (H1.out _) ?_;rintro e w' ⟨rfl,rfl⟩;dsimp only)|go_values|go_skip|go_guarded|(with_reducible refine wg ?_)|go_step|go_upon)
 refine Calls.mono (H2.out _ ?_) ?_
 · exact hT.below bel
 rintro e w1 ⟨rfl,hb1⟩;obtain ⟨chb1,fhb1,zhb1⟩:=dM hb1;try simp at zhb1
 have y0hb1:w.heap.size<w1.heap.size:=by omega
 try (have y1hb1:w.heap.size + 1<w1.heap.size:=by omega)
 try (have y2hb1:w.heap.size + 1 + 1<w1.heap.size:=by omega)
 dsimp only;repeat' (first|go_values|go_skip|go_guarded|(with_reducible refine wg ?_)|go_step|go_upon)
 all_goals (apply bodyPost_ret;(simp only [results,results85];go_simp;exact rfl);rfl)
 all_goals exact cF rfl bel
set_option maxHeartbeats 2000000 in
set_option maxRecDepth 100000 in
theorem sys (x a b i ra rb:Int) (hm:m.size≤140737488355328) (p0:0≤pc) (p1:pc<4294967296) (h:Sg.isWord m pc=true) (hx:Sg.word m pc.toNat=x)
 (ho:oA x=.tuple #[.agg #[.int .i64 24,.int .i64 a,.int .i64 b,.int .i64 i],.int .i64 0]) (hT:Tab w)
 (h0:0≤a) (h1:a<8) (h2:0≤b) (h3:b<8) (ha:[Value.int .u32 r0,.int .u32 r1,.int .u32 r2,.int .u32 r3,.int .u32 r4,.int .u32 r5,.int .u32 r6,.int .u32 r7,.int .u32 pc][a.toNat]? =some (.int .u32 ra)) (hb:[Value.int .u32 r0,.int .u32 r1,.int .u32 r2,.int .u32 r3,.int .u32 r4,.int .u32 r5,.int .u32 r6,.int .u32 r7,.int .u32 pc][b.toNat]? =some (.int .u32 rb)):
  Calls prog 85 #[.agg #[.int .u32 r0,.int .u32 r1,.int .u32 r2,.int .u32 r3,.int .u32 r4,.int .u32 r5,.int .u32 r6,.int .u32 r7,.int .u32 pc],.string m] w (aN (.tuple #[Cp.oE [r0,r1,r2,r3,r4,r5,r6,r7] ((pc + 4) % 4294967296),.string m,.int .i64 3]) w):=by
 have x0:=Sg.iT m pc.toNat;have x1:=Sg.iS m pc.toNat;have HL:=fun W=> Seg.fT m pc W hm p0 p1 h;rw [hx] at x0 x1 HL;have HT:=fun W hT=> Take.any x W x0 x1 hT;rw [ho] at HT;have H1:=hU HL;have H2:=hU HT;clear HL HT hx h ho;have z02:w.heap.size<w.heap.size + 1 + 1:=by omega
 have z03:w.heap.size<w.heap.size + 1 + 1 + 1:=by omega
 have z13:w.heap.size + 1<w.heap.size + 1 + 1 + 1:=by omega
 go_in;repeat' (first|(go_at_call 128;refine Calls.mono (H1.out _) ?_;rintro e w' ⟨rfl,rfl⟩;dsimp only)|go_values|go_skip|go_guarded|(with_reducible refine wg ?_)|go_step|go_upon)
 refine Calls.mono (H2.out _ ?_) ?_
 · exact hT.below bel
 rintro e w1 ⟨rfl,hb1⟩;obtain ⟨chb1,fhb1,zhb1⟩:=dM hb1;try simp at zhb1
 have y0hb1:w.heap.size<w1.heap.size:=by omega
 try (have y1hb1:w.heap.size + 1<w1.heap.size:=by omega)
 try (have y2hb1:w.heap.size + 1 + 1<w1.heap.size:=by omega)
 dsimp only;repeat' (first|go_values|go_skip|go_guarded|(with_reducible refine wg ?_)|go_step|go_upon|go_quiet (fail))
 all_goals (apply bodyPost_ret;(simp only [results,results85];go_simp;exact rfl);rfl)
 all_goals exact cF rfl bel
end Step
namespace Step
variable (r0 r1 r2 r3 r4 r5 r6 r7 pc:Int) (m:ByteArray) (w:World)
set_option maxHeartbeats 4000000 in
set_option maxRecDepth 100000 in
theorem qWx (x a b i ra rb:Int) (hm:m.size≤140737488355328) (p0:0≤pc) (p1:pc<4294967296) (h:Sg.isWord m pc=true) (hx:Sg.word m pc.toNat=x)
 (ho:oA x=.tuple #[.agg #[.int .i64 14,.int .i64 a,.int .i64 b,.int .i64 i],.int .i64 0]) (hT:Tab w) (hf:Sg.isWord m ((rb + i) % 4294967296)=true)
 (h0:0≤a) (h1:a<8) (h2:0≤b) (h3:b<8) (q0:0≤ra) (q1:ra<4294967296) (ha:[Value.int .u32 r0,.int .u32 r1,.int .u32 r2,.int .u32 r3,.int .u32 r4,.int .u32 r5,.int .u32 r6,.int .u32 r7,.int .u32 pc][a.toNat]? =some (.int .u32 ra)) (hb:[Value.int .u32 r0,.int .u32 r1,.int .u32 r2,.int .u32 r3,.int .u32 r4,.int .u32 r5,.int .u32 r6,.int .u32 r7,.int .u32 pc][b.toNat]? =some (.int .u32 rb)):
  Calls prog 85 #[.agg #[.int .u32 r0,.int .u32 r1,.int .u32 r2,.int .u32 r3,.int .u32 r4,.int .u32 r5,.int .u32 r6,.int .u32 r7,.int .u32 pc],.string m] w (aN (.tuple #[Cp.oE ([r0,r1,r2,r3,r4,r5,r6,r7].set a.toNat (Sg.word m ((rb + i) % 4294967296).toNat)) ((pc + 4) % 4294967296),.string m,.int .i64 0]) w):=by
 have x0:=Sg.iT m pc.toNat;have x1:=Sg.iS m pc.toNat;have HL:=fun W=> Seg.fT m pc W hm p0 p1 h;rw [hx] at x0 x1 HL;have HT:=fun W hT=> Take.any x W x0 x1 hT;rw [ho] at HT;have H1:=hU HL;have H2:=hU HT;have d0:0≤(rb + i) % 4294967296:=Int.emod_nonneg _ (by omega);have d1:(rb + i) % 4294967296<4294967296:=Int.emod_lt_of_pos _ (by omega);have H3:=hU (fun W=> Seg.fT m _ W hm d0 d1 hf);clear HL HT hx h ho d0 d1;have z02:w.heap.size<w.heap.size + 1 + 1:=by omega
 have z03:w.heap.size<w.heap.size + 1 + 1 + 1:=by omega
 have z13:w.heap.size + 1<w.heap.size + 1 + 1 + 1:=by omega
 go_in;repeat' (first|(go_at_call 128;refine Calls.mono (H1.out _) ?_;rintro e w' ⟨rfl,rfl⟩;dsimp only)|go_values|go_skip|go_guarded|(with_reducible refine wg ?_)|go_step|go_upon)
 clear H1;refine Calls.mono (H2.out _ ?_) ?_
 · exact hT.below bel
 rintro e w1 ⟨rfl,hb1⟩;obtain ⟨chb1,fhb1,zhb1⟩:=dM hb1;try simp at zhb1
 have y0hb1:w.heap.size<w1.heap.size:=by omega
 try (have y1hb1:w.heap.size + 1<w1.heap.size:=by omega)
 try (have y2hb1:w.heap.size + 1 + 1<w1.heap.size:=by omega)
 dsimp only;clear H2
 have hcs:∀ O o,(w1.alloc O).cell? ⟨w.heap.size,o,none⟩=(([r0,r1,r2,r3,r4,r5,r6,r7] ++ [pc]).map (Value.int .u32))[o]? :=by
  intro O o;rw [fF (by omega),chb1 _ _ (by simp only [World.size_alloc];omega),fF (by simp only [World.size_alloc];omega),World.cell?_alloc_mark];simp
 have up0:=fun O n v=> Does.fC (hcs O) a.toNat (by simp;omega) n v 0 (by simp);have up1:=fun O n v=> Does.fC (hcs O) a.toNat (by simp;omega) n v 1 (by simp);have up2:=fun O n v=> Does.fC (hcs O) a.toNat (by simp;omega) n v 2 (by simp);have up3:=fun O n v=> Does.fC (hcs O) a.toNat (by simp;omega) n v 3 (by simp);have up4:=fun O n v=> Does.fC (hcs O) a.toNat (by simp;omega) n v 4 (by simp);have up5:=fun O n v=> Does.fC (hcs O) a.toNat (by simp;omega) n v 5 (by simp);have up6:=fun O n v=> Does.fC (hcs O) a.toNat (by simp;omega) n v 6 (by simp);have up7:=fun O n v=> Does.fC (hcs O) a.toNat (by simp;omega) n v 7 (by simp);have up8:=fun O n v=> (Does.fC (hcs O) a.toNat (by simp;omega) n v 8 (by simp)).trans (congrArg (fun z=> some (Value.int .u32 z)) (qEy (p:=pc) (x:=v) (show a.toNat<8 by omega)));clear hcs;repeat' (first|go_values|go_skip|go_guarded|(with_reducible refine wg ?_)|go_step|go_upon|go_quiet (fail))
 refine Calls.mono (H3.out _) ?_;rintro e w' ⟨rfl,rfl⟩;dsimp only;repeat' (first|go_values|go_skip|go_guarded|(with_reducible refine wg ?_)|go_step|go_upon|go_quiet (fail))
 all_goals (apply bodyPost_ret;(simp only [results,results85];go_simp;exact rfl);rfl)
 all_goals refine cF (three (Cp.qH (by omega) ?_ ?_) rfl) bel
 all_goals (first|rfl|(simp;done)|(simp;omega)|omega)
set_option maxHeartbeats 4000000 in
set_option maxRecDepth 100000 in
theorem qZt (x a b i ra rb:Int) (hm:m.size≤140737488355328) (p0:0≤pc) (p1:pc<4294967296) (h:Sg.isWord m pc=true) (hx:Sg.word m pc.toNat=x)
 (ho:oA x=.tuple #[.agg #[.int .i64 14,.int .i64 a,.int .i64 b,.int .i64 i],.int .i64 0]) (hT:Tab w) (hf:Sg.isWord m ((rb + i) % 4294967296)=false)
 (h0:0≤a) (h1:a<8) (h2:0≤b) (h3:b<8) (q0:0≤ra) (q1:ra<4294967296) (ha:[Value.int .u32 r0,.int .u32 r1,.int .u32 r2,.int .u32 r3,.int .u32 r4,.int .u32 r5,.int .u32 r6,.int .u32 r7,.int .u32 pc][a.toNat]? =some (.int .u32 ra)) (hb:[Value.int .u32 r0,.int .u32 r1,.int .u32 r2,.int .u32 r3,.int .u32 r4,.int .u32 r5,.int .u32 r6,.int .u32 r7,.int .u32 pc][b.toNat]? =some (.int .u32 rb)):
  Calls prog 85 #[.agg #[.int .u32 r0,.int .u32 r1,.int .u32 r2,.int .u32 r3,.int .u32 r4,.int .u32 r5,.int .u32 r6,.int .u32 r7,.int .u32 pc],.string m] w (aN (.tuple #[.agg #[.int .u32 r0,.int .u32 r1,.int .u32 r2,.int .u32 r3,.int .u32 r4,.int .u32 r5,.int .u32 r6,.int .u32 r7,.int .u32 pc],.string m,.int .i64 2]) w):=by
 have x0:=Sg.iT m pc.toNat;have x1:=Sg.iS m pc.toNat;have HL:=fun W=> Seg.fT m pc W hm p0 p1 h;rw [hx] at x0 x1 HL;have HT:=fun W hT=> Take.any x W x0 x1 hT;rw [ho] at HT;have H1:=hU HL;have H2:=hU HT;have d0:0≤(rb + i) % 4294967296:=Int.emod_nonneg _ (by omega);have d1:(rb + i) % 4294967296<4294967296:=Int.emod_lt_of_pos _ (by omega);have H3:=hU (fun W=> Seg.qDo m _ W hm d0 d1 hf);clear HL HT hx h ho d0 d1;have z02:w.heap.size<w.heap.size + 1 + 1:=by omega
 have z03:w.heap.size<w.heap.size + 1 + 1 + 1:=by omega
 have z13:w.heap.size + 1<w.heap.size + 1 + 1 + 1:=by omega
 go_in;repeat' (first|(go_at_call 128;refine Calls.mono (H1.out _) ?_;rintro e w' ⟨rfl,rfl⟩;dsimp only)|go_values|go_skip|go_guarded|(with_reducible refine wg ?_)|go_step|go_upon)
 clear H1;refine Calls.mono (H2.out _ ?_) ?_
 · exact hT.below bel
 rintro e w1 ⟨rfl,hb1⟩;obtain ⟨chb1,fhb1,zhb1⟩:=dM hb1;try simp at zhb1
 have y0hb1:w.heap.size<w1.heap.size:=by omega
 try (have y1hb1:w.heap.size + 1<w1.heap.size:=by omega)
 try (have y2hb1:w.heap.size + 1 + 1<w1.heap.size:=by omega)
 dsimp only;clear H2;repeat' (first|go_values|go_skip|go_guarded|(with_reducible refine wg ?_)|go_step|go_upon|go_quiet (fail))
 refine Calls.mono (H3.out _) ?_;rintro e w' ⟨rfl,rfl⟩;dsimp only;repeat' (first|go_values|go_skip|go_guarded|(with_reducible refine wg ?_)|go_step|go_upon|go_quiet (fail))
 all_goals (apply bodyPost_ret;(simp only [results,results85];go_simp;exact rfl);rfl)
 all_goals exact cF rfl bel
set_option maxHeartbeats 4000000 in
set_option maxRecDepth 100000 in
theorem qWw (x a b i ra rb:Int) (hm:m.size≤140737488355328) (p0:0≤pc) (p1:pc<4294967296) (h:Sg.isWord m pc=true) (hx:Sg.word m pc.toNat=x)
 (ho:oA x=.tuple #[.agg #[.int .i64 16,.int .i64 a,.int .i64 b,.int .i64 i],.int .i64 0]) (hT:Tab w) (hf:Sg.has m ((rb + i) % 4294967296) 1=true)
 (h0:0≤a) (h1:a<8) (h2:0≤b) (h3:b<8) (q0:0≤ra) (q1:ra<4294967296) (ha:[Value.int .u32 r0,.int .u32 r1,.int .u32 r2,.int .u32 r3,.int .u32 r4,.int .u32 r5,.int .u32 r6,.int .u32 r7,.int .u32 pc][a.toNat]? =some (.int .u32 ra)) (hb:[Value.int .u32 r0,.int .u32 r1,.int .u32 r2,.int .u32 r3,.int .u32 r4,.int .u32 r5,.int .u32 r6,.int .u32 r7,.int .u32 pc][b.toNat]? =some (.int .u32 rb)):
  Calls prog 85 #[.agg #[.int .u32 r0,.int .u32 r1,.int .u32 r2,.int .u32 r3,.int .u32 r4,.int .u32 r5,.int .u32 r6,.int .u32 r7,.int .u32 pc],.string m] w (aN (.tuple #[Cp.oE ([r0,r1,r2,r3,r4,r5,r6,r7].set a.toNat (Sg.byte m ((rb + i) % 4294967296).toNat)) ((pc + 4) % 4294967296),.string m,.int .i64 0]) w):=by
 have x0:=Sg.iT m pc.toNat;have x1:=Sg.iS m pc.toNat;have HL:=fun W=> Seg.fT m pc W hm p0 p1 h;rw [hx] at x0 x1 HL;have HT:=fun W hT=> Take.any x W x0 x1 hT;rw [ho] at HT;have H1:=hU HL;have H2:=hU HT;have d0:0≤(rb + i) % 4294967296:=Int.emod_nonneg _ (by omega);have d1:(rb + i) % 4294967296<4294967296:=Int.emod_lt_of_pos _ (by omega);have H3:=hU (fun W=> Seg.qNb m _ W hm d0 d1 hf);clear HL HT hx h ho d0 d1;have z02:w.heap.size<w.heap.size + 1 + 1:=by omega
 have z03:w.heap.size<w.heap.size + 1 + 1 + 1:=by omega
 have z13:w.heap.size + 1<w.heap.size + 1 + 1 + 1:=by omega
 go_in;repeat' (first|(go_at_call 128;refine Calls.mono (H1.out _) ?_;rintro e w' ⟨rfl,rfl⟩;dsimp only)|go_values|go_skip|go_guarded|(with_reducible refine wg ?_)|go_step|go_upon)
 clear H1;refine Calls.mono (H2.out _ ?_) ?_
 · exact hT.below bel
 rintro e w1 ⟨rfl,hb1⟩;obtain ⟨chb1,fhb1,zhb1⟩:=dM hb1;try simp at zhb1
 have y0hb1:w.heap.size<w1.heap.size:=by omega
 try (have y1hb1:w.heap.size + 1<w1.heap.size:=by omega)
 try (have y2hb1:w.heap.size + 1 + 1<w1.heap.size:=by omega)
 dsimp only;clear H2
 have hcs:∀ O o,(w1.alloc O).cell? ⟨w.heap.size,o,none⟩=(([r0,r1,r2,r3,r4,r5,r6,r7] ++ [pc]).map (Value.int .u32))[o]? :=by
  intro O o;rw [fF (by omega),chb1 _ _ (by simp only [World.size_alloc];omega),fF (by simp only [World.size_alloc];omega),World.cell?_alloc_mark];simp
 have up0:=fun O n v=> Does.fC (hcs O) a.toNat (by simp;omega) n v 0 (by simp);have up1:=fun O n v=> Does.fC (hcs O) a.toNat (by simp;omega) n v 1 (by simp);have up2:=fun O n v=> Does.fC (hcs O) a.toNat (by simp;omega) n v 2 (by simp);have up3:=fun O n v=> Does.fC (hcs O) a.toNat (by simp;omega) n v 3 (by simp);have up4:=fun O n v=> Does.fC (hcs O) a.toNat (by simp;omega) n v 4 (by simp);have up5:=fun O n v=> Does.fC (hcs O) a.toNat (by simp;omega) n v 5 (by simp);have up6:=fun O n v=> Does.fC (hcs O) a.toNat (by simp;omega) n v 6 (by simp);have up7:=fun O n v=> Does.fC (hcs O) a.toNat (by simp;omega) n v 7 (by simp);have up8:=fun O n v=> (Does.fC (hcs O) a.toNat (by simp;omega) n v 8 (by simp)).trans (congrArg (fun z=> some (Value.int .u32 z)) (qEy (p:=pc) (x:=v) (show a.toNat<8 by omega)));clear hcs;repeat' (first|go_values|go_skip|go_guarded|(with_reducible refine wg ?_)|go_step|go_upon|go_quiet (fail))
 refine Calls.mono (H3.out _) ?_;rintro e w' ⟨rfl,rfl⟩;dsimp only;repeat' (first|go_values|go_skip|go_guarded|(with_reducible refine wg ?_)|go_step|go_upon|go_quiet (fail))
 all_goals (apply bodyPost_ret;(simp only [results,results85];go_simp;exact rfl);rfl)
 all_goals refine cF (three (Cp.qH (by omega) ?_ ?_) rfl) bel
 all_goals (first|rfl|(simp;done)|(simp;omega)|omega)
set_option maxHeartbeats 4000000 in
set_option maxRecDepth 100000 in
theorem qZs (x a b i ra rb:Int) (hm:m.size≤140737488355328) (p0:0≤pc) (p1:pc<4294967296) (h:Sg.isWord m pc=true) (hx:Sg.word m pc.toNat=x)
 (ho:oA x=.tuple #[.agg #[.int .i64 16,.int .i64 a,.int .i64 b,.int .i64 i],.int .i64 0]) (hT:Tab w) (hf:Sg.has m ((rb + i) % 4294967296) 1=false)
 (h0:0≤a) (h1:a<8) (h2:0≤b) (h3:b<8) (q0:0≤ra) (q1:ra<4294967296) (ha:[Value.int .u32 r0,.int .u32 r1,.int .u32 r2,.int .u32 r3,.int .u32 r4,.int .u32 r5,.int .u32 r6,.int .u32 r7,.int .u32 pc][a.toNat]? =some (.int .u32 ra)) (hb:[Value.int .u32 r0,.int .u32 r1,.int .u32 r2,.int .u32 r3,.int .u32 r4,.int .u32 r5,.int .u32 r6,.int .u32 r7,.int .u32 pc][b.toNat]? =some (.int .u32 rb)):
  Calls prog 85 #[.agg #[.int .u32 r0,.int .u32 r1,.int .u32 r2,.int .u32 r3,.int .u32 r4,.int .u32 r5,.int .u32 r6,.int .u32 r7,.int .u32 pc],.string m] w (aN (.tuple #[.agg #[.int .u32 r0,.int .u32 r1,.int .u32 r2,.int .u32 r3,.int .u32 r4,.int .u32 r5,.int .u32 r6,.int .u32 r7,.int .u32 pc],.string m,.int .i64 2]) w):=by
 have x0:=Sg.iT m pc.toNat;have x1:=Sg.iS m pc.toNat;have HL:=fun W=> Seg.fT m pc W hm p0 p1 h;rw [hx] at x0 x1 HL;have HT:=fun W hT=> Take.any x W x0 x1 hT;rw [ho] at HT;have H1:=hU HL;have H2:=hU HT;have d0:0≤(rb + i) % 4294967296:=Int.emod_nonneg _ (by omega);have d1:(rb + i) % 4294967296<4294967296:=Int.emod_lt_of_pos _ (by omega);have H3:=hU (fun W=> Seg.qQw m _ W hm d0 d1 hf);clear HL HT hx h ho d0 d1;have z02:w.heap.size<w.heap.size + 1 + 1:=by omega
 have z03:w.heap.size<w.heap.size + 1 + 1 + 1:=by omega
 have z13:w.heap.size + 1<w.heap.size + 1 + 1 + 1:=by omega
 go_in;repeat' (first|(go_at_call 128;refine Calls.mono (H1.out _) ?_;rintro e w' ⟨rfl,rfl⟩;dsimp only)|go_values|go_skip|go_guarded|(with_reducible refine wg ?_)|go_step|go_upon)
 clear H1;refine Calls.mono (H2.out _ ?_) ?_
 · exact hT.below bel
 rintro e w1 ⟨rfl,hb1⟩;obtain ⟨chb1,fhb1,zhb1⟩:=dM hb1;try simp at zhb1
 have y0hb1:w.heap.size<w1.heap.size:=by omega
 try (have y1hb1:w.heap.size + 1<w1.heap.size:=by omega)
 try (have y2hb1:w.heap.size + 1 + 1<w1.heap.size:=by omega)
 dsimp only;clear H2;repeat' (first|go_values|go_skip|go_guarded|(with_reducible refine wg ?_)|go_step|go_upon|go_quiet (fail))
 refine Calls.mono (H3.out _) ?_;rintro e w' ⟨rfl,rfl⟩;dsimp only;repeat' (first|go_values|go_skip|go_guarded|(with_reducible refine wg ?_)|go_step|go_upon|go_quiet (fail))
 all_goals (apply bodyPost_ret;(simp only [results,results85];go_simp;exact rfl);rfl)
 all_goals exact cF rfl bel
end Step
namespace Step
variable (r0 r1 r2 r3 r4 r5 r6 r7 pc:Int) (m:ByteArray) (w:World)
set_option maxHeartbeats 4000000 in
set_option maxRecDepth 100000 in
theorem qXn (x a b i ra rb:Int) (hm:m.size≤140737488355328) (p0:0≤pc) (p1:pc<4294967296) (h:Sg.isWord m pc=true) (hx:Sg.word m pc.toNat=x)
 (ho:oA x=.tuple #[.agg #[.int .i64 15,.int .i64 a,.int .i64 b,.int .i64 i],.int .i64 0]) (hT:Tab w) (hf:Sg.isWord m ((rb + i) % 4294967296)=true)
 (h0:0≤a) (h1:a<8) (h2:0≤b) (h3:b<8) (q0:0≤ra) (q1:ra<4294967296) (ha:[Value.int .u32 r0,.int .u32 r1,.int .u32 r2,.int .u32 r3,.int .u32 r4,.int .u32 r5,.int .u32 r6,.int .u32 r7,.int .u32 pc][a.toNat]? =some (.int .u32 ra)) (hb:[Value.int .u32 r0,.int .u32 r1,.int .u32 r2,.int .u32 r3,.int .u32 r4,.int .u32 r5,.int .u32 r6,.int .u32 r7,.int .u32 pc][b.toNat]? =some (.int .u32 rb)):
  Calls prog 85 #[.agg #[.int .u32 r0,.int .u32 r1,.int .u32 r2,.int .u32 r3,.int .u32 r4,.int .u32 r5,.int .u32 r6,.int .u32 r7,.int .u32 pc],.string m] w (aN (.tuple #[Cp.oE ([r0,r1,r2,r3,r4,r5,r6,r7].set a.toNat ra) ((pc + 4) % 4294967296),.string (Sg.put m ((rb + i) % 4294967296).toNat (Sg.qF ra)),.int .i64 0]) w):=by
 have x0:=Sg.iT m pc.toNat;have x1:=Sg.iS m pc.toNat;have HL:=fun W=> Seg.fT m pc W hm p0 p1 h;rw [hx] at x0 x1 HL;have HT:=fun W hT=> Take.any x W x0 x1 hT;rw [ho] at HT;have H1:=hU HL;have H2:=hU HT;have d0:0≤(rb + i) % 4294967296:=Int.emod_nonneg _ (by omega);have d1:(rb + i) % 4294967296<4294967296:=Int.emod_lt_of_pos _ (by omega);have H3:=hU (fun W=> Seg.qHg m _ ra W hm d0 d1 q0 q1 hf);clear HL HT hx h ho d0 d1;have z02:w.heap.size<w.heap.size + 1 + 1:=by omega
 have z03:w.heap.size<w.heap.size + 1 + 1 + 1:=by omega
 have z13:w.heap.size + 1<w.heap.size + 1 + 1 + 1:=by omega
 go_in;repeat' (first|(go_at_call 128;refine Calls.mono (H1.out _) ?_;rintro e w' ⟨rfl,rfl⟩;dsimp only)|go_values|go_skip|go_guarded|(with_reducible refine wg ?_)|go_step|go_upon)
 clear H1;refine Calls.mono (H2.out _ ?_) ?_
 · exact hT.below bel
 rintro e w1 ⟨rfl,hb1⟩;obtain ⟨chb1,fhb1,zhb1⟩:=dM hb1;try simp at zhb1
 have y0hb1:w.heap.size<w1.heap.size:=by omega
 try (have y1hb1:w.heap.size + 1<w1.heap.size:=by omega)
 try (have y2hb1:w.heap.size + 1 + 1<w1.heap.size:=by omega)
 dsimp only;clear H2
 have hcs:∀ O o,(w1.alloc O).cell? ⟨w.heap.size,o,none⟩=(([r0,r1,r2,r3,r4,r5,r6,r7] ++ [pc]).map (Value.int .u32))[o]? :=by
  intro O o;rw [fF (by omega),chb1 _ _ (by simp only [World.size_alloc];omega),fF (by simp only [World.size_alloc];omega),World.cell?_alloc_mark];simp
 repeat' (first|go_values|go_skip|go_guarded|(with_reducible refine wg ?_)|go_step|go_upon|go_quiet (fail))
 refine Calls.mono (H3.out _) ?_;rintro e w2 ⟨rfl,hb2⟩;obtain ⟨chb2,fhb2,zhb2⟩:=dM hb2;try simp at zhb2
 have u0:w.heap.size<w2.heap.size:=by omega
 have u1:w.heap.size + 1<w2.heap.size:=by omega
 have t0:w.heap.size<w1.heap.size + 1:=by omega
 have t1:w.heap.size + 1<w1.heap.size + 1:=by omega
 dsimp only
 have hcs2:∀ o,w2.cell? ⟨w.heap.size,o,none⟩=(([r0,r1,r2,r3,r4,r5,r6,r7] ++ [pc]).map (Value.int .u32))[o]? :=by
  intro o;rw [chb2 _ _ (by simp;omega)];exact hcs _ o
 clear hcs;have up0:=fun v=> qA hcs2 a.toNat (by simp;omega) v 0 (by simp);have up1:=fun v=> qA hcs2 a.toNat (by simp;omega) v 1 (by simp);have up2:=fun v=> qA hcs2 a.toNat (by simp;omega) v 2 (by simp);have up3:=fun v=> qA hcs2 a.toNat (by simp;omega) v 3 (by simp);have up4:=fun v=> qA hcs2 a.toNat (by simp;omega) v 4 (by simp);have up5:=fun v=> qA hcs2 a.toNat (by simp;omega) v 5 (by simp);have up6:=fun v=> qA hcs2 a.toNat (by simp;omega) v 6 (by simp);have up7:=fun v=> qA hcs2 a.toNat (by simp;omega) v 7 (by simp);have up8:=fun v=> (qA hcs2 a.toNat (by simp;omega) v 8 (by simp)).trans (congrArg (fun z=> some (Value.int .u32 z)) (qEy (p:=pc) (x:=v) (show a.toNat<8 by omega)));clear hcs2;repeat' (first|go_values|go_skip|go_guarded|(with_reducible refine wg ?_)|go_step|go_upon|go_quiet (fail))
 all_goals (apply bodyPost_ret;(simp only [results,results85];go_simp;exact rfl);rfl)
 all_goals refine cF (three (Cp.qH (by omega) ?_ ?_) rfl) bel
 all_goals (first|rfl|(simp;done)|(simp;omega)|omega)
set_option maxHeartbeats 4000000 in
set_option maxRecDepth 100000 in
theorem xAd (x a b i ra rb:Int) (hm:m.size≤140737488355328) (p0:0≤pc) (p1:pc<4294967296) (h:Sg.isWord m pc=true) (hx:Sg.word m pc.toNat=x)
 (ho:oA x=.tuple #[.agg #[.int .i64 15,.int .i64 a,.int .i64 b,.int .i64 i],.int .i64 0]) (hT:Tab w) (hf:Sg.isWord m ((rb + i) % 4294967296)=false)
 (h0:0≤a) (h1:a<8) (h2:0≤b) (h3:b<8) (q0:0≤ra) (q1:ra<4294967296) (ha:[Value.int .u32 r0,.int .u32 r1,.int .u32 r2,.int .u32 r3,.int .u32 r4,.int .u32 r5,.int .u32 r6,.int .u32 r7,.int .u32 pc][a.toNat]? =some (.int .u32 ra)) (hb:[Value.int .u32 r0,.int .u32 r1,.int .u32 r2,.int .u32 r3,.int .u32 r4,.int .u32 r5,.int .u32 r6,.int .u32 r7,.int .u32 pc][b.toNat]? =some (.int .u32 rb)):
  Calls prog 85 #[.agg #[.int .u32 r0,.int .u32 r1,.int .u32 r2,.int .u32 r3,.int .u32 r4,.int .u32 r5,.int .u32 r6,.int .u32 r7,.int .u32 pc],.string m] w (aN (.tuple #[.agg #[.int .u32 r0,.int .u32 r1,.int .u32 r2,.int .u32 r3,.int .u32 r4,.int .u32 r5,.int .u32 r6,.int .u32 r7,.int .u32 pc],.string m,.int .i64 2]) w):=by
 have x0:=Sg.iT m pc.toNat;have x1:=Sg.iS m pc.toNat;have HL:=fun W=> Seg.fT m pc W hm p0 p1 h;rw [hx] at x0 x1 HL;have HT:=fun W hT=> Take.any x W x0 x1 hT;rw [ho] at HT;have H1:=hU HL;have H2:=hU HT;have d0:0≤(rb + i) % 4294967296:=Int.emod_nonneg _ (by omega);have d1:(rb + i) % 4294967296<4294967296:=Int.emod_lt_of_pos _ (by omega);have H3:=hU (fun W=> Seg.qFh m _ ra W hm d0 d1 hf);clear HL HT hx h ho d0 d1;have z02:w.heap.size<w.heap.size + 1 + 1:=by omega
 have z03:w.heap.size<w.heap.size + 1 + 1 + 1:=by omega
 have z13:w.heap.size + 1<w.heap.size + 1 + 1 + 1:=by omega
 go_in;repeat' (first|(go_at_call 128;refine Calls.mono (H1.out _) ?_;rintro e w' ⟨rfl,rfl⟩;dsimp only)|go_values|go_skip|go_guarded|(with_reducible refine wg ?_)|go_step|go_upon)
 clear H1;refine Calls.mono (H2.out _ ?_) ?_
 · exact hT.below bel
 rintro e w1 ⟨rfl,hb1⟩;obtain ⟨chb1,fhb1,zhb1⟩:=dM hb1;try simp at zhb1
 have y0hb1:w.heap.size<w1.heap.size:=by omega
 try (have y1hb1:w.heap.size + 1<w1.heap.size:=by omega)
 try (have y2hb1:w.heap.size + 1 + 1<w1.heap.size:=by omega)
 dsimp only;clear H2;repeat' (first|go_values|go_skip|go_guarded|(with_reducible refine wg ?_)|go_step|go_upon|go_quiet (fail))
 refine Calls.mono (H3.out _) ?_;rintro e w2 ⟨rfl,hb2⟩;obtain ⟨chb2,fhb2,zhb2⟩:=dM hb2;try simp at zhb2
 have u0:w.heap.size<w2.heap.size:=by omega
 have u1:w.heap.size + 1<w2.heap.size:=by omega
 have t0:w.heap.size<w1.heap.size + 1:=by omega
 have t1:w.heap.size + 1<w1.heap.size + 1:=by omega
 dsimp only;repeat' (first|go_values|go_skip|go_guarded|(with_reducible refine wg ?_)|go_step|go_upon|go_quiet (fail))
 all_goals (apply bodyPost_ret;(simp only [results,results85];go_simp;exact rfl);rfl)
 all_goals exact cF rfl bel
set_option maxHeartbeats 4000000 in
set_option maxRecDepth 100000 in
theorem qXj (x a b i ra rb:Int) (hm:m.size≤140737488355328) (p0:0≤pc) (p1:pc<4294967296) (h:Sg.isWord m pc=true) (hx:Sg.word m pc.toNat=x)
 (ho:oA x=.tuple #[.agg #[.int .i64 17,.int .i64 a,.int .i64 b,.int .i64 i],.int .i64 0]) (hT:Tab w) (hf:Sg.has m ((rb + i) % 4294967296) 1=true)
 (h0:0≤a) (h1:a<8) (h2:0≤b) (h3:b<8) (q0:0≤ra) (q1:ra<4294967296) (ha:[Value.int .u32 r0,.int .u32 r1,.int .u32 r2,.int .u32 r3,.int .u32 r4,.int .u32 r5,.int .u32 r6,.int .u32 r7,.int .u32 pc][a.toNat]? =some (.int .u32 ra)) (hb:[Value.int .u32 r0,.int .u32 r1,.int .u32 r2,.int .u32 r3,.int .u32 r4,.int .u32 r5,.int .u32 r6,.int .u32 r7,.int .u32 pc][b.toNat]? =some (.int .u32 rb)):
  Calls prog 85 #[.agg #[.int .u32 r0,.int .u32 r1,.int .u32 r2,.int .u32 r3,.int .u32 r4,.int .u32 r5,.int .u32 r6,.int .u32 r7,.int .u32 pc],.string m] w (aN (.tuple #[Cp.oE ([r0,r1,r2,r3,r4,r5,r6,r7].set a.toNat ra) ((pc + 4) % 4294967296),.string (Sg.put m ((rb + i) % 4294967296).toNat [UInt8.ofNat (ra % 256).toNat]),.int .i64 0]) w):=by
 have x0:=Sg.iT m pc.toNat;have x1:=Sg.iS m pc.toNat;have HL:=fun W=> Seg.fT m pc W hm p0 p1 h;rw [hx] at x0 x1 HL;have HT:=fun W hT=> Take.any x W x0 x1 hT;rw [ho] at HT;have H1:=hU HL;have H2:=hU HT;have d0:0≤(rb + i) % 4294967296:=Int.emod_nonneg _ (by omega);have d1:(rb + i) % 4294967296<4294967296:=Int.emod_lt_of_pos _ (by omega);have H3:=hU (fun W=> Seg.qNm m _ ra W hm d0 d1 q0 q1 hf);clear HL HT hx h ho d0 d1;have z02:w.heap.size<w.heap.size + 1 + 1:=by omega
 have z03:w.heap.size<w.heap.size + 1 + 1 + 1:=by omega
 have z13:w.heap.size + 1<w.heap.size + 1 + 1 + 1:=by omega
 go_in;repeat' (first|(go_at_call 128;refine Calls.mono (H1.out _) ?_;rintro e w' ⟨rfl,rfl⟩;dsimp only)|go_values|go_skip|go_guarded|(with_reducible refine wg ?_)|go_step|go_upon)
 clear H1;refine Calls.mono (H2.out _ ?_) ?_
 · exact hT.below bel
 rintro e w1 ⟨rfl,hb1⟩;obtain ⟨chb1,fhb1,zhb1⟩:=dM hb1;try simp at zhb1
 have y0hb1:w.heap.size<w1.heap.size:=by omega
 try (have y1hb1:w.heap.size + 1<w1.heap.size:=by omega)
 try (have y2hb1:w.heap.size + 1 + 1<w1.heap.size:=by omega)
 dsimp only;clear H2
 have hcs:∀ O o,(w1.alloc O).cell? ⟨w.heap.size,o,none⟩=(([r0,r1,r2,r3,r4,r5,r6,r7] ++ [pc]).map (Value.int .u32))[o]? :=by
  intro O o;rw [fF (by omega),chb1 _ _ (by simp only [World.size_alloc];omega),fF (by simp only [World.size_alloc];omega),World.cell?_alloc_mark];simp
 repeat' (first|go_values|go_skip|go_guarded|(with_reducible refine wg ?_)|go_step|go_upon|go_quiet (fail))
 refine Calls.mono (H3.out _) ?_;rintro e w2 ⟨rfl,hb2⟩;obtain ⟨chb2,fhb2,zhb2⟩:=dM hb2;try simp at zhb2
 have u0:w.heap.size<w2.heap.size:=by omega
 have u1:w.heap.size + 1<w2.heap.size:=by omega
 have t0:w.heap.size<w1.heap.size + 1:=by omega
 have t1:w.heap.size + 1<w1.heap.size + 1:=by omega
 dsimp only
 have hcs2:∀ o,w2.cell? ⟨w.heap.size,o,none⟩=(([r0,r1,r2,r3,r4,r5,r6,r7] ++ [pc]).map (Value.int .u32))[o]? :=by
  intro o;rw [chb2 _ _ (by simp;omega)];exact hcs _ o
 clear hcs;have up0:=fun v=> qA hcs2 a.toNat (by simp;omega) v 0 (by simp);have up1:=fun v=> qA hcs2 a.toNat (by simp;omega) v 1 (by simp);have up2:=fun v=> qA hcs2 a.toNat (by simp;omega) v 2 (by simp);have up3:=fun v=> qA hcs2 a.toNat (by simp;omega) v 3 (by simp);have up4:=fun v=> qA hcs2 a.toNat (by simp;omega) v 4 (by simp);have up5:=fun v=> qA hcs2 a.toNat (by simp;omega) v 5 (by simp);have up6:=fun v=> qA hcs2 a.toNat (by simp;omega) v 6 (by simp);have up7:=fun v=> qA hcs2 a.toNat (by simp;omega) v 7 (by simp);have up8:=fun v=> (qA hcs2 a.toNat (by simp;omega) v 8 (by simp)).trans (congrArg (fun z=> some (Value.int .u32 z)) (qEy (p:=pc) (x:=v) (show a.toNat<8 by omega)));clear hcs2;repeat' (first|go_values|go_skip|go_guarded|(with_reducible refine wg ?_)|go_step|go_upon|go_quiet (fail))
 all_goals (apply bodyPost_ret;(simp only [results,results85];go_simp;exact rfl);rfl)
 all_goals refine cF (three (Cp.qH (by omega) ?_ ?_) rfl) bel
 all_goals (first|rfl|(simp;done)|(simp;omega)|omega)
set_option maxHeartbeats 4000000 in
set_option maxRecDepth 100000 in
theorem qZy (x a b i ra rb:Int) (hm:m.size≤140737488355328) (p0:0≤pc) (p1:pc<4294967296) (h:Sg.isWord m pc=true) (hx:Sg.word m pc.toNat=x)
 (ho:oA x=.tuple #[.agg #[.int .i64 17,.int .i64 a,.int .i64 b,.int .i64 i],.int .i64 0]) (hT:Tab w) (hf:Sg.has m ((rb + i) % 4294967296) 1=false)
 (h0:0≤a) (h1:a<8) (h2:0≤b) (h3:b<8) (q0:0≤ra) (q1:ra<4294967296) (ha:[Value.int .u32 r0,.int .u32 r1,.int .u32 r2,.int .u32 r3,.int .u32 r4,.int .u32 r5,.int .u32 r6,.int .u32 r7,.int .u32 pc][a.toNat]? =some (.int .u32 ra)) (hb:[Value.int .u32 r0,.int .u32 r1,.int .u32 r2,.int .u32 r3,.int .u32 r4,.int .u32 r5,.int .u32 r6,.int .u32 r7,.int .u32 pc][b.toNat]? =some (.int .u32 rb)):
  Calls prog 85 #[.agg #[.int .u32 r0,.int .u32 r1,.int .u32 r2,.int .u32 r3,.int .u32 r4,.int .u32 r5,.int .u32 r6,.int .u32 r7,.int .u32 pc],.string m] w (aN (.tuple #[.agg #[.int .u32 r0,.int .u32 r1,.int .u32 r2,.int .u32 r3,.int .u32 r4,.int .u32 r5,.int .u32 r6,.int .u32 r7,.int .u32 pc],.string m,.int .i64 2]) w):=by
 have x0:=Sg.iT m pc.toNat;have x1:=Sg.iS m pc.toNat;have HL:=fun W=> Seg.fT m pc W hm p0 p1 h;rw [hx] at x0 x1 HL;have HT:=fun W hT=> Take.any x W x0 x1 hT;rw [ho] at HT;have H1:=hU HL;have H2:=hU HT;have d0:0≤(rb + i) % 4294967296:=Int.emod_nonneg _ (by omega);have d1:(rb + i) % 4294967296<4294967296:=Int.emod_lt_of_pos _ (by omega);have H3:=hU (fun W=> Seg.qVk m _ ra W hm d0 d1 q0 q1 hf);clear HL HT hx h ho d0 d1;have z02:w.heap.size<w.heap.size + 1 + 1:=by omega
 have z03:w.heap.size<w.heap.size + 1 + 1 + 1:=by omega
 have z13:w.heap.size + 1<w.heap.size + 1 + 1 + 1:=by omega
 go_in;repeat' (first|(go_at_call 128;refine Calls.mono (H1.out _) ?_;rintro e w' ⟨rfl,rfl⟩;dsimp only)|go_values|go_skip|go_guarded|(with_reducible refine wg ?_)|go_step|go_upon)
 clear H1;refine Calls.mono (H2.out _ ?_) ?_
 · exact hT.below bel
 rintro e w1 ⟨rfl,hb1⟩;obtain ⟨chb1,fhb1,zhb1⟩:=dM hb1;try simp at zhb1
 have y0hb1:w.heap.size<w1.heap.size:=by omega
 try (have y1hb1:w.heap.size + 1<w1.heap.size:=by omega)
 try (have y2hb1:w.heap.size + 1 + 1<w1.heap.size:=by omega)
 dsimp only;clear H2;repeat' (first|go_values|go_skip|go_guarded|(with_reducible refine wg ?_)|go_step|go_upon|go_quiet (fail))
 refine Calls.mono (H3.out _) ?_;rintro e w2 ⟨rfl,hb2⟩;obtain ⟨chb2,fhb2,zhb2⟩:=dM hb2;try simp at zhb2
 have u0:w.heap.size<w2.heap.size:=by omega
 have u1:w.heap.size + 1<w2.heap.size:=by omega
 have t0:w.heap.size<w1.heap.size + 1:=by omega
 have t1:w.heap.size + 1<w1.heap.size + 1:=by omega
 dsimp only;repeat' (first|go_values|go_skip|go_guarded|(with_reducible refine wg ?_)|go_step|go_upon|go_quiet (fail))
 all_goals (apply bodyPost_ret;(simp only [results,results85];go_simp;exact rfl);rfl)
 all_goals exact cF rfl bel
end Step
namespace Step
variable (r0 r1 r2 r3 r4 r5 r6 r7 pc:Int) (m:ByteArray) (w:World)
set_option maxHeartbeats 4000000 in
set_option maxRecDepth 100000 in
theorem lo (x op s0 s1 s2 s3 s4 s5 s6 s7 p a b i ra rb:Int) (hm:m.size≤140737488355328) (p0:0≤pc) (p1:pc<4294967296) (h:Sg.isWord m pc=true) (hx:Sg.word m pc.toNat=x)
 (ho:oA x=.tuple #[.agg #[.int .i64 op,.int .i64 a,.int .i64 b,.int .i64 i],.int .i64 0]) (hT:Tab w) (t:Bool) (g1:1≤op) (g2:op≤13) (hw:Words [r0,r1,r2,r3,r4,r5,r6,r7]) (hs:Cp.gW [r0,r1,r2,r3,r4,r5,r6,r7] pc op a b i=[s0,s1,s2,s3,s4,s5,s6,s7]) (hp:Cp.iJ [r0,r1,r2,r3,r4,r5,r6,r7] pc op a b i=p) (ht:Cp.gR op a b i=t)
 (h0:0≤a) (h1:a<8) (h2:0≤b) (h3:b<8) (q0:0≤ra) (q1:ra<4294967296) (ha:[Value.int .u32 r0,.int .u32 r1,.int .u32 r2,.int .u32 r3,.int .u32 r4,.int .u32 r5,.int .u32 r6,.int .u32 r7,.int .u32 pc][a.toNat]? =some (.int .u32 ra)) (hb:[Value.int .u32 r0,.int .u32 r1,.int .u32 r2,.int .u32 r3,.int .u32 r4,.int .u32 r5,.int .u32 r6,.int .u32 r7,.int .u32 pc][b.toNat]? =some (.int .u32 rb)):
  Calls prog 85 #[.agg #[.int .u32 r0,.int .u32 r1,.int .u32 r2,.int .u32 r3,.int .u32 r4,.int .u32 r5,.int .u32 r6,.int .u32 r7,.int .u32 pc],.string m] w (aN (.tuple #[.agg #[.int .u32 s0,.int .u32 s1,.int .u32 s2,.int .u32 s3,.int .u32 s4,.int .u32 s5,.int .u32 s6,.int .u32 s7,.int .u32 p],.string m,.int .i64 0]) w):=by
 have x0:=Sg.iT m pc.toNat;have x1:=Sg.iS m pc.toNat;have HL:=fun W=> Seg.fT m pc W hm p0 p1 h;rw [hx] at x0 x1 HL;have HT:=fun W hT=> Take.any x W x0 x1 hT;rw [ho] at HT;have H1:=hU HL;have H2:=hU HT;have d0:0≤(rb + i) % 4294967296:=Int.emod_nonneg _ (by omega);have d1:(rb + i) % 4294967296<4294967296:=Int.emod_lt_of_pos _ (by omega);have H3:=hU (qJd hw hs hp ht);clear hs hp ht;clear HL HT hx h ho d0 d1;have z02:w.heap.size<w.heap.size + 1 + 1:=by omega
 have z03:w.heap.size<w.heap.size + 1 + 1 + 1:=by omega
 have z13:w.heap.size + 1<w.heap.size + 1 + 1 + 1:=by omega
 go_in;repeat' (first|(go_at_call 128;refine Calls.mono (H1.out _) ?_;rintro e w' ⟨rfl,rfl⟩;dsimp only)|go_values|go_skip|go_guarded|(with_reducible refine wg ?_)|go_step|go_upon)
 clear H1;refine Calls.mono (H2.out _ ?_) ?_
 · exact hT.below bel
 rintro e w1 ⟨rfl,hb1⟩;obtain ⟨chb1,fhb1,zhb1⟩:=dM hb1;try simp at zhb1
 have y0hb1:w.heap.size<w1.heap.size:=by omega
 try (have y1hb1:w.heap.size + 1<w1.heap.size:=by omega)
 try (have y2hb1:w.heap.size + 1 + 1<w1.heap.size:=by omega)
 dsimp only;clear H2;repeat' (first|go_values|go_skip|go_guarded|(with_reducible refine wg ?_)|go_step|go_upon|go_quiet (fail))
 refine Calls.mono (H3.out _ ?_) ?_
 · exact hT.below bel
 rintro e w2 ⟨rfl,hb2⟩;obtain ⟨chb2,fhb2,zhb2⟩:=dM hb2;try simp at zhb2
 have u0:w.heap.size<w2.heap.size:=by omega
 have u1:w.heap.size + 1<w2.heap.size:=by omega
 have t0:w.heap.size<w1.heap.size + 1:=by omega
 have t1:w.heap.size + 1<w1.heap.size + 1:=by omega
 dsimp only;repeat' (first|go_values|go_skip|go_guarded|(with_reducible refine wg ?_)|go_step|go_upon|go_quiet (fail))
 all_goals (apply bodyPost_ret;(simp only [results,results85];go_simp;exact rfl);rfl)
 all_goals exact cF rfl bel
set_option maxHeartbeats 4000000 in
set_option maxRecDepth 100000 in
theorem hi (x op s0 s1 s2 s3 s4 s5 s6 s7 p a b i ra rb:Int) (hm:m.size≤140737488355328) (p0:0≤pc) (p1:pc<4294967296) (h:Sg.isWord m pc=true) (hx:Sg.word m pc.toNat=x)
 (ho:oA x=.tuple #[.agg #[.int .i64 op,.int .i64 a,.int .i64 b,.int .i64 i],.int .i64 0]) (hT:Tab w) (t:Bool) (g1:18≤op) (g2:op≤23) (hw:Words [r0,r1,r2,r3,r4,r5,r6,r7]) (hs:Cp.gW [r0,r1,r2,r3,r4,r5,r6,r7] pc op a b i=[s0,s1,s2,s3,s4,s5,s6,s7]) (hp:Cp.iJ [r0,r1,r2,r3,r4,r5,r6,r7] pc op a b i=p) (ht:Cp.gR op a b i=t)
 (h0:0≤a) (h1:a<8) (h2:0≤b) (h3:b<8) (q0:0≤ra) (q1:ra<4294967296) (ha:[Value.int .u32 r0,.int .u32 r1,.int .u32 r2,.int .u32 r3,.int .u32 r4,.int .u32 r5,.int .u32 r6,.int .u32 r7,.int .u32 pc][a.toNat]? =some (.int .u32 ra)) (hb:[Value.int .u32 r0,.int .u32 r1,.int .u32 r2,.int .u32 r3,.int .u32 r4,.int .u32 r5,.int .u32 r6,.int .u32 r7,.int .u32 pc][b.toNat]? =some (.int .u32 rb)):
  Calls prog 85 #[.agg #[.int .u32 r0,.int .u32 r1,.int .u32 r2,.int .u32 r3,.int .u32 r4,.int .u32 r5,.int .u32 r6,.int .u32 r7,.int .u32 pc],.string m] w (aN (.tuple #[.agg #[.int .u32 s0,.int .u32 s1,.int .u32 s2,.int .u32 s3,.int .u32 s4,.int .u32 s5,.int .u32 s6,.int .u32 s7,.int .u32 p],.string m,.int .i64 0]) w):=by
 have x0:=Sg.iT m pc.toNat;have x1:=Sg.iS m pc.toNat;have HL:=fun W=> Seg.fT m pc W hm p0 p1 h;rw [hx] at x0 x1 HL;have HT:=fun W hT=> Take.any x W x0 x1 hT;rw [ho] at HT;have H1:=hU HL;have H2:=hU HT;have d0:0≤(rb + i) % 4294967296:=Int.emod_nonneg _ (by omega);have d1:(rb + i) % 4294967296<4294967296:=Int.emod_lt_of_pos _ (by omega);have H3:=hU (qJd hw hs hp ht);clear hs hp ht;clear HL HT hx h ho d0 d1;have z02:w.heap.size<w.heap.size + 1 + 1:=by omega
 have z03:w.heap.size<w.heap.size + 1 + 1 + 1:=by omega
 have z13:w.heap.size + 1<w.heap.size + 1 + 1 + 1:=by omega
 go_in;repeat' (first|(go_at_call 128;refine Calls.mono (H1.out _) ?_;rintro e w' ⟨rfl,rfl⟩;dsimp only)|go_values|go_skip|go_guarded|(with_reducible refine wg ?_)|go_step|go_upon)
 clear H1;refine Calls.mono (H2.out _ ?_) ?_
 · exact hT.below bel
 rintro e w1 ⟨rfl,hb1⟩;obtain ⟨chb1,fhb1,zhb1⟩:=dM hb1;try simp at zhb1
 have y0hb1:w.heap.size<w1.heap.size:=by omega
 try (have y1hb1:w.heap.size + 1<w1.heap.size:=by omega)
 try (have y2hb1:w.heap.size + 1 + 1<w1.heap.size:=by omega)
 dsimp only;clear H2;repeat' (first|go_values|go_skip|go_guarded|(with_reducible refine wg ?_)|go_step|go_upon|go_quiet (fail))
 refine Calls.mono (H3.out _ ?_) ?_
 · exact hT.below bel
 rintro e w2 ⟨rfl,hb2⟩;obtain ⟨chb2,fhb2,zhb2⟩:=dM hb2;try simp at zhb2
 have u0:w.heap.size<w2.heap.size:=by omega
 have u1:w.heap.size + 1<w2.heap.size:=by omega
 have t0:w.heap.size<w1.heap.size + 1:=by omega
 have t1:w.heap.size + 1<w1.heap.size + 1:=by omega
 dsimp only;repeat' (first|go_values|go_skip|go_guarded|(with_reducible refine wg ?_)|go_step|go_upon|go_quiet (fail))
 all_goals (apply bodyPost_ret;(simp only [results,results85];go_simp;exact rfl);rfl)
 all_goals exact cF rfl bel
end Step
theorem qDh {x:Int} (h:Cp.qW x=true):1≤Cp.opOf x∧Cp.opOf x≤24∧0≤Cp.aOf x∧Cp.aOf x<8∧0≤Cp.bOf x∧Cp.bOf x<8:=by
 unfold Cp.qW Cp.may at h;simp only [Bool.and_eq_true] at h;obtain ⟨h1,h24,ha0,ha8,hb0,hb8,_,_⟩:=Cp.zU.1 h.1.1.1;exact ⟨h1,h24,ha0,ha8,hb0,hb8⟩
theorem qNw (rs:List Int) (pc x:Int) (m:ByteArray) (w:World) (hw:Words rs) (p0:0≤pc) (p1:pc<4294967296) (hm:m.size≤140737488355328) (hT:Tab w)
 (h:Sg.isWord m pc=true) (hx:Sg.word m pc.toNat=x) (ht:Cp.qW x=true):
 Calls prog 85 #[Cp.oE rs pc,.string m] w (aN (.tuple #[Cp.oE (Cp.zC rs pc m (Cp.opOf x) (Cp.aOf x) (Cp.bOf x) (Cp.qL x)).rs (Cp.zC rs pc m (Cp.opOf x) (Cp.aOf x) (Cp.bOf x) (Cp.qL x)).pc,
  .string (Cp.zC rs pc m (Cp.opOf x) (Cp.aOf x) (Cp.bOf x) (Cp.qL x)).m,.int .i64 (Cp.zC rs pc m (Cp.opOf x) (Cp.aOf x) (Cp.bOf x) (Cp.qL x)).t]) w):=by
 obtain ⟨h1,h24,ha0,ha8,hb0,hb8⟩:=qDh ht;have ho:=qDj ht;generalize Cp.opOf x=op at *;generalize Cp.aOf x=a at *;generalize Cp.bOf x=b at *;generalize Cp.qL x=i at *;have sa:=Does.sel rs hw.1 pc a ha0 ha8;have sb:=Does.sel rs hw.1 pc b hb0 hb8;have wa:=hw.at a.toNat;have wb:=hw.at b.toNat;unfold Cp.zC;simp only [];have hset:=uQ rs a.toNat (by rw [hw.1];omega);generalize hra:rs.getD a.toNat 0=ra at *;generalize hrb:rs.getD b.toNat 0=rb at *;match rs,hw.1,hw with
 |[r0,r1,r2,r3,r4,r5,r6,r7],_,hw=>
  by_cases o14:op=14
  · subst o14;rw [if_pos rfl];by_cases hf:Sg.isWord m ((rb + i) % 4294967296)=true
    · rw [if_pos hf];exact Step.qWx r0 r1 r2 r3 r4 r5 r6 r7 pc m w x a b i ra rb hm p0 p1 h hx ho hT hf ha0 ha8 hb0 hb8 wa.1 wa.2 sa sb
    · rw [if_neg hf];exact Step.qZt r0 r1 r2 r3 r4 r5 r6 r7 pc m w x a b i ra rb hm p0 p1 h hx ho hT (by simpa using hf) ha0 ha8 hb0 hb8 wa.1 wa.2 sa sb
  · rw [if_neg o14];by_cases o16:op=16
    · subst o16;rw [if_pos rfl];by_cases hf:Sg.has m ((rb + i) % 4294967296) 1=true
      · rw [if_pos hf];exact Step.qWw r0 r1 r2 r3 r4 r5 r6 r7 pc m w x a b i ra rb hm p0 p1 h hx ho hT hf ha0 ha8 hb0 hb8 wa.1 wa.2 sa sb
      · rw [if_neg hf];exact Step.qZs r0 r1 r2 r3 r4 r5 r6 r7 pc m w x a b i ra rb hm p0 p1 h hx ho hT (by simpa using hf) ha0 ha8 hb0 hb8 wa.1 wa.2 sa sb
    · rw [if_neg o16];by_cases o15:op=15
      · subst o15;rw [if_pos rfl];by_cases hf:Sg.isWord m ((rb + i) % 4294967296)=true
        · rw [if_pos hf];have:=Step.qXn r0 r1 r2 r3 r4 r5 r6 r7 pc m w x a b i ra rb hm p0 p1 h hx ho hT hf ha0 ha8 hb0 hb8 wa.1 wa.2 sa sb
          rwa [hset] at this
        · rw [if_neg hf];exact Step.xAd r0 r1 r2 r3 r4 r5 r6 r7 pc m w x a b i ra rb hm p0 p1 h hx ho hT (by simpa using hf) ha0 ha8 hb0 hb8 wa.1 wa.2 sa sb
      · rw [if_neg o15];by_cases o17:op=17
        · subst o17;rw [if_pos rfl];by_cases hf:Sg.has m ((rb + i) % 4294967296) 1=true
          · rw [if_pos hf];have:=Step.qXj r0 r1 r2 r3 r4 r5 r6 r7 pc m w x a b i ra rb hm p0 p1 h hx ho hT hf ha0 ha8 hb0 hb8 wa.1 wa.2 sa sb
            rwa [hset] at this
          · rw [if_neg hf];exact Step.qZy r0 r1 r2 r3 r4 r5 r6 r7 pc m w x a b i ra rb hm p0 p1 h hx ho hT (by simpa using hf) ha0 ha8 hb0 hb8 wa.1 wa.2 sa sb
        · rw [if_neg o17];by_cases o24:op=24
          · subst o24;rw [if_pos rfl];exact Step.sys r0 r1 r2 r3 r4 r5 r6 r7 pc m w x a b i ra rb hm p0 p1 h hx ho hT ha0 ha8 hb0 hb8 sa sb
          · rw [if_neg o24];obtain ⟨s0,s1,s2,s3,s4,s5,s6,s7,hs,_⟩:=qSd 0 (qLp (pc:=pc) (op:=op) (a:=a) (b:=b) (i:=i) hw.1);simp only [];rw [hs];by_cases o13:op≤13
            · exact Step.lo r0 r1 r2 r3 r4 r5 r6 r7 pc m w x op s0 s1 s2 s3 s4 s5 s6 s7 _ a b i ra rb hm p0 p1 h hx ho hT _ h1 o13 hw hs rfl rfl ha0 ha8 hb0 hb8 wa.1 wa.2 sa sb
            · exact Step.hi r0 r1 r2 r3 r4 r5 r6 r7 pc m w x op s0 s1 s2 s3 s4 s5 s6 s7 _ a b i ra rb hm p0 p1 h hx ho hT _ (by omega) (by omega) hw hs rfl rfl ha0 ha8 hb0 hb8 wa.1 wa.2 sa sb
theorem qNv (rs:List Int) (pc:Int) (m:ByteArray) (w:World) (hw:Words rs) (p0:0≤pc) (p1:pc<4294967296) (hm:m.size≤140737488355328) (hT:Tab w):
 Calls prog 85 #[Cp.oE rs pc,.string m] w (aN (.tuple #[Cp.oE (Cp.step rs pc m).rs (Cp.step rs pc m).pc,.string (Cp.step rs pc m).m,.int .i64 (Cp.step rs pc m).t]) w):=by
 unfold Cp.step;by_cases h:Sg.isWord m pc=true
 · rw [if_pos h];by_cases ht:Cp.qW (Sg.word m pc.toNat)=true
   · rw [if_pos ht];exact qNw rs pc _ m w hw p0 p1 hm hT h rfl ht
   · rw [if_neg ht];match rs,hw.1 with
     |[r0,r1,r2,r3,r4,r5,r6,r7],_=> exact Step.odd r0 r1 r2 r3 r4 r5 r6 r7 pc m w _ hm p0 p1 h rfl (by simpa using ht) hT
 · rw [if_neg h];match rs,hw.1 with
   |[r0,r1,r2,r3,r4,r5,r6,r7],_=> exact Step.fault r0 r1 r2 r3 r4 r5 r6 r7 pc m w hm p0 p1 (by simpa using h)
theorem qDv {op:BinOp} (ho:op=.and∨op=.or∨op=.xor) {x y:Int} (h0:0≤x) (h1:x<4294967296) (h2:0≤y) (h3:y<4294967296):0≤bits op .u32 x y∧bits op .u32 x y<4294967296:=by
 obtain ⟨m,rfl⟩:=Int.eq_ofNat_of_zero_le h0;obtain ⟨n,rfl⟩:=Int.eq_ofNat_of_zero_le h2;rcases ho with rfl|rfl|rfl
 · have hlt:m &&& n≤m:=Nat.and_le_left;rw [u32_and_nat m n (by omega) (by omega)];omega
 · have hlt:m|||n<2 ^ 32:=Nat.or_lt_two_pow (by omega) (by omega)
   rw [u32_or_nat m n (by omega) (by omega)];omega
 · have hlt:m ^^^ n<2 ^ 32:=Nat.xor_lt_two_pow (by omega) (by omega);rw [u32_xor_nat m n (by omega) (by omega)];omega
theorem div_lt {x y:Int} (h0:0≤x) (h1:x<4294967296) (h2:0≤y):0≤x / y∧x / y<4294967296:=
 ⟨Int.ediv_nonneg h0 h2,Int.lt_of_le_of_lt (Int.ediv_le_self _ h0) h1⟩
theorem mod_lt (x:Int):0≤x % 4294967296∧x % 4294967296<4294967296:=by omega
theorem fG {c:Prop} [Decidable c] {x y:Int} (hx:0≤x∧x<4294967296) (hy:0≤y∧y<4294967296):0≤(if c then x else y)∧(if c then x else y)<4294967296:=by
 by_cases h:c
 · rw [if_pos h];exact hx
 · rw [if_neg h];exact hy
theorem qQj {op ra rb im pc:Int} (a0:0≤ra) (a1:ra<4294967296) (b0:0≤rb) (b1:rb<4294967296) (i0:0≤im) (i1:im<4294967296):
 0≤Cp.val op ra rb im pc∧Cp.val op ra rb im pc<4294967296:=by
 have e1:=qDv (.inl rfl) a0 a1 b0 b1;have e2:=qDv (.inr (.inl rfl)) a0 a1 b0 b1;have e3:=qDv (.inr (.inr rfl)) a0 a1 b0 b1;have e4:=div_lt a0 a1 b0;have e5:=div_lt a0 a1 (show (0:Int)≤2 ^ (rb % 32).toNat from Int.le_of_lt (Int.pow_pos (by omega)));unfold Cp.val
 exact fG ⟨i0,i1⟩ (fG (mod_lt _) (fG ⟨b0,b1⟩ (fG (mod_lt _) (fG (mod_lt _) (fG (mod_lt _) (fG (fG (by omega) e4) (fG e1 (fG e2 (fG e3
  (fG (mod_lt _) (fG e5 (fG (mod_lt _) (fG (mod_lt _) ⟨a0,a1⟩)))))))))))))
theorem qPn {op ra rb im pc:Int} (a0:0≤ra) (a1:ra<4294967296):0≤Cp.nxt op ra rb im pc∧Cp.nxt op ra rb im pc<4294967296:=by
 unfold Cp.nxt;exact fG (mod_lt _) (fG ⟨a0,a1⟩ (mod_lt _))
structure Kept (rs:List Int) (pc:Int) (m:ByteArray) (s:Cp.St):Prop where
 words:Words s.rs
 lo:0≤s.pc
 hi:s.pc<4294967296
 size:s.m.size=m.size
 ways:(s.t=1∨s.t=2)∧s.rs=rs∧s.pc=pc∧s.m=m∨s.t=3∧s.rs=rs∧s.pc=(pc + 4) % 4294967296∧s.m=m∨
  s.t=0∧(∃ k x,k<8∧s.rs=rs.set k x)∧∃ k,∀ j,¬ (k≤j∧j<k + 4)→Sg.byte s.m j=Sg.byte m j
theorem qHq {rs:List Int} (hw:Words rs) (pc op a b i:Int):Words (Cp.gW rs pc op a b i)∧∃ k x,k<8∧Cp.gW rs pc op a b i=rs.set k x:=by
 cases hB:Cp.gR op a b i with
 |false=>
  rw [(qFu hB).1];exact ⟨hw,0,rs.getD 0 0,by omega,(uQ rs 0 (by rw [hw.1];omega)).symm⟩
 |true=>
  obtain ⟨_,_,_,ha0,ha8,_,_⟩:=qLn hB;rw [qLq hB];unfold Cp.regs;split
  · exact ⟨hw,0,rs.getD 0 0,by omega,(uQ rs 0 (by rw [hw.1];omega)).symm⟩
  · have wa:=hw.at a.toNat;have wb:=hw.at b.toNat;have hv:=qQj (op:=op) (pc:=pc) wa.1 wa.2 wb.1 wb.2 (mod_lt i).1 (mod_lt i).2;exact ⟨qDl hw _ hv.1 hv.2,a.toNat,_,by omega,rfl⟩
theorem qHp {rs:List Int} (hw:Words rs) {pc:Int} (p0:0≤pc) (p1:pc<4294967296) (op a b i:Int):0≤Cp.iJ rs pc op a b i∧Cp.iJ rs pc op a b i<4294967296:=by
 cases hB:Cp.gR op a b i with
 |false=> rw [(qFu hB).2];exact ⟨p0,p1⟩
 |true=>
  rw [qLo hB];have wa:=hw.at a.toNat;exact qPn wa.1 wa.2
theorem mZ {rs:List Int} (hw:Words rs) {pc:Int} (p0:0≤pc) (p1:pc<4294967296) (m:ByteArray) {t:Int} (ht:t=1∨t=2):Kept rs pc m ⟨rs,pc,m,t⟩:=
 ⟨hw,p0,p1,rfl,.inl ⟨ht,rfl,rfl,rfl⟩⟩
theorem qGg {rs:List Int} (hw:Words rs) (pc:Int) (m:ByteArray) {k:Nat} (hk:k<8) {x:Int} (x0:0≤x) (x1:x<4294967296):Kept rs pc m ⟨rs.set k x,(pc + 4) % 4294967296,m,0⟩:=
 ⟨qDl hw _ x0 x1,(mod_lt _).1,(mod_lt _).2,rfl,.inr (.inr ⟨rfl,⟨k,x,hk,rfl⟩,0,fun _ _=> rfl⟩)⟩
theorem qGf {rs:List Int} (hw:Words rs) (pc:Int) (m:ByteArray) {k:Nat} {l:List UInt8} (hl:l.length≤4) (h:k + l.length≤m.size):Kept rs pc m ⟨rs,(pc + 4) % 4294967296,Sg.put m k l,0⟩:=
 ⟨hw,(mod_lt _).1,(mod_lt _).2,Sg.qAy h,.inr (.inr ⟨rfl,⟨0,rs.getD 0 0,by omega,(uQ rs 0 (by rw [hw.1];omega)).symm⟩,k,fun j hj=> Sg.tW h (by omega)⟩)⟩
theorem qIp {rs:List Int} (hw:Words rs) {pc:Int} (p0:0≤pc) (p1:pc<4294967296) (m:ByteArray) (op a b i:Int) (ha0:0≤a) (ha8:a<8):Kept rs pc m (Cp.zC rs pc m op a b i):=by
 have q:=mod_lt (rs.getD b.toNat 0 + i);unfold Cp.zC;simp only [];split
 · split
   · exact qGg hw pc m (by omega) (Sg.iT _ _) (Sg.iS _ _)
   · exact mZ hw p0 p1 m (.inr rfl)
 split
 · split
   · exact qGg hw pc m (by omega) (Sg.tV _ _) (by have:=Sg.sC m ((rs.getD b.toNat 0 + i) % 4294967296).toNat;omega)
   · exact mZ hw p0 p1 m (.inr rfl)
 split
 · split
   · rename_i h;simp only [Sg.isWord,Sg.has,Bool.and_eq_true,decide_eq_true_eq] at h;exact qGf hw pc m (Nat.le_refl 4) (show _ + 4≤_ by omega)
   · exact mZ hw p0 p1 m (.inr rfl)
 split
 · split
   · rename_i h;simp only [Sg.has,decide_eq_true_eq] at h;exact qGf hw pc m (show 1≤4 by omega) (show _ + 1≤_ by omega)
   · exact mZ hw p0 p1 m (.inr rfl)
 split
 · exact ⟨hw,(mod_lt _).1,(mod_lt _).2,rfl,.inr (.inl ⟨rfl,rfl,rfl,rfl⟩)⟩
 · have d:=qHq hw pc op a b i;have e:=qHp hw p0 p1 op a b i;exact ⟨d.1,e.1,e.2,rfl,.inr (.inr ⟨rfl,d.2,0,fun _ _=> rfl⟩)⟩
theorem qDe {rs:List Int} (hw:Words rs) {pc:Int} (p0:0≤pc) (p1:pc<4294967296) (m:ByteArray):Kept rs pc m (Cp.step rs pc m):=by
 unfold Cp.step;split
 · split
   · rename_i h;have:=qDh h
     exact qIp hw p0 p1 m _ _ _ _ this.2.2.1 this.2.2.2.1
   · exact mZ hw p0 p1 m (.inl rfl)
 · exact mZ hw p0 p1 m (.inr rfl)
