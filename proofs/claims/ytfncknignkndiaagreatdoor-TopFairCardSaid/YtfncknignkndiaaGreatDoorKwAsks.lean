/- work.asks: the call of the process whose turn it is. Conditions: as many as Go can hold; the process is in the table. -/
import Derived.Test.YtfncknignkndiaaGreatDoorGTK
set_option linter.unusedVariables false
set_option maxRecDepth 100000
set_option maxHeartbeats 8000000
set_option linter.unusedSimpArgs false
namespace Go.Proofs.YtfncknignkndiaaGreatDoor
open Tryz
open Go.RowKit KR RegT3
namespace Kn
theorem qVu (b:Nat) (k:aI) (p:Proc) (x:Call) (w:World) (hk:cH w b k) (hf:Fit k) (hx:nD x) (hxn:x.n=1):
 Calls prog 86 #[.pointer (some ⟨b,0,none⟩),.agg p.cells,.agg x.cells] w (eN b (.bool (dF k p x)) (asks k p x) w):=by
 have HB1:Hid (dF k p x=false):=hU (by rw [dF,hxn];rfl);have HA:Hid (asks k p x=ends k p.pid (x.a % 256) 0):=hU (by rw [asks,hxn];rfl);have htm:wrap64 (x.a.tmod 256)=x.a % 256:=by rw [Int.tmod_eq_emod_of_nonneg hx.a0];unfold wrap64;omega
 have HTM:=hU htm;clear htm;obtain ⟨y,bs,hk0,hl⟩:=hk;have hbl:=hlt hk0;have hn:k.p.length≤1000000:=Nat.le_trans hf.n (by omega);have HF:=hU hf;have HX:=hU hx;clear hf hx;have hxc:x.cells[0]? =some (.int .u32 1):=by rw [← hxn];rfl
 clear hxn;obtain ⟨W0,hW0,K0,P0,X0,E0,L0,hz0,hzK,hzP,hzX⟩:=st2 p.cells 121 x.cells 119 hk0 hl;have kXn:W0.cell? ⟨w.heap.size + 1,0,none⟩=some (.int .u32 1):=(aC X0.out 0).trans hxc;have kXa:W0.cell? ⟨w.heap.size + 1,1,none⟩=some (.int .u32 x.a):=aC X0.out 1;have kP0:W0.cell? ⟨w.heap.size,0,none⟩=some (.int .i64 p.pid):=aC P0.out 0;go_in
 repeat' (first
  |(rw [hW0];clear hW0)
  |go_values|go_skip|go_guarded|refine wg ?_|go_step|go_upon)
 rw [HTM.out];refine (qOg b k p.pid (x.a % 256) 0 _ ⟨_,_,K0.out,L0.out⟩ hn HF.out.t HF.out.a HF.out.pl HF.out.pb HF.out.hl (by decide) (by decide)).mono ?_;rintro er W1 ⟨hret,⟨y1,bs1,hkk,hll⟩,hke⟩;have P1:=mB hke P0;have X1:=mB hke X0;have K1:=hU hkk;have E1:=mE hke E0;have L1:=hU hll;clear hkk hll hke;clear K0 P0 X0 E0 L0;obtain ⟨er2,rfl⟩:=hret;dsimp only;refine sg ?_;intros;go_ret;rw [HB1.out,HA.out];exact ⟨rfl,⟨_,_,K1.out,L1.out⟩,E1.out⟩
theorem qVx (b:Nat) (k:aI) (p:Proc) (x:Call) (w:World) (hk:cH w b k) (hf:Fit k) (hx:nD x) (hxn:x.n=7):
 Calls prog 86 #[.pointer (some ⟨b,0,none⟩),.agg p.cells,.agg x.cells] w (eN b (.bool (dF k p x)) (asks k p x) w):=by
 have HB1:Hid (dF k p x=false):=hU (by rw [dF,hxn];rfl);have HA:Hid (asks k p x={answer k p x 0 0 with t:=jE k.t}):=hU (by rw [asks,hxn];rfl);obtain ⟨y,bs,hk0,hl⟩:=hk;have hbl:=hlt hk0;have hn:k.p.length≤1000000:=Nat.le_trans hf.n (by omega);have HF:=hU hf;have HX:=hU hx;clear hf hx;have hxc:x.cells[0]? =some (.int .u32 7):=by rw [← hxn];rfl
 clear hxn;obtain ⟨W0,hW0,K0,P0,X0,E0,L0,hz0,hzK,hzP,hzX⟩:=st2 p.cells 121 x.cells 119 hk0 hl;have kXn:W0.cell? ⟨w.heap.size + 1,0,none⟩=some (.int .u32 7):=(aC X0.out 0).trans hxc;have kXa:W0.cell? ⟨w.heap.size + 1,1,none⟩=some (.int .u32 x.a):=aC X0.out 1;have kP0:W0.cell? ⟨w.heap.size,0,none⟩=some (.int .i64 p.pid):=aC P0.out 0;go_in
 repeat' (first
  |(rw [hW0];clear hW0)
  |(refine aE (t:=121) (v:=.agg p.cells) rfl rfl rfl (aD aL P0.out rfl) ?_)
  |(refine aE (t:=119) (v:=.agg x.cells) rfl rfl rfl (aD dD X0.out rfl) ?_)
  |go_values|go_skip|go_guarded|refine wg ?_|go_step|go_upon)
 refine (fL b k p x 0 0 _ ⟨_,_,K0.out,L0.out⟩ (by decide) (by decide) hn HF.out.tr).mono ?_;rintro er W1 ⟨hret,⟨y1,bs1,hkk,hll⟩,hke⟩;have P1:=mB hke P0;have X1:=mB hke X0;have K1:=hU hkk;have E1:=mE hke E0;have L1:=hU hll;clear hkk hll hke;clear K0 P0 X0 E0 L0;obtain ⟨er2,rfl⟩:=hret;dsimp only;clear kXn kXa kP0;have kT1:W1.cell? ⟨b,1,none⟩=some y1.t:=aC K1.out 1;have kT2:W1.cell? ⟨b,2,none⟩=some (.int .i64 k.t.left):=aC K1.out 2;refine sg ?_;intros;refine (qNz _ k.t _ ⟨y1.t,rfl,L1.out.t⟩ (by have:=HF.out.t;omega)).mono ?_;rintro er W2 ⟨v7,rfl,⟨u7,rfl,ht7⟩,hb⟩;obtain ⟨K2,P2,X2,E2,L2⟩:=n5 hb K1 P1 X1 E1 L1;clear K1 P1 X1 E1 L1;clear hb kT1 kT2;have ST2:=hU ht7;clear ht7;dsimp only
 repeat' (first
  |(refine sN 29 (.agg #[u7,.int .i64 (jE k.t).left]) 1 (aJ {y1 with t:=u7} {answer k p x 0 0 with t:=jE k.t}) cM.size K2.out (uK ST2.out) fun W3 hp=> ?_
    have L3:Hid (aH W3 {y1 with t:=u7} bs1 {answer k p x 0 0 with t:=jE k.t}):=hU ((L2.out.setT ST2.out).put K2.out cI hp);have E3:=pK hp E2;have K3:Hid (W3.heap[b]? =some (.cells (aJ {y1 with t:=u7} {answer k p x 0 0 with t:=jE k.t}) 104 (0,0))):=pA hp;have P3:=pT hp K2 P2;have X3:=pT hp K2 X2;have ST3:=hU (ST2.out.put K2.out hp (by decide));clear hp;clear K2 P2 X2 E2 L2 ST2)
  |go_values|go_skip|go_guarded|refine wg ?_|go_step|go_upon)
 clear ST3;refine sg ?_;intros;go_ret;rw [HB1.out,HA.out];exact ⟨rfl,⟨_,_,K3.out,L3.out⟩,E3.out⟩
theorem qRk (b:Nat) (k:aI) (p:Proc) (x:Call) (w:World) (hk:cH w b k) (hf:Fit k) (hx:nD x) (hxn:x.n=8) (hxa:0<x.a):
 Calls prog 86 #[.pointer (some ⟨b,0,none⟩),.agg p.cells,.agg x.cells] w (eN b (.bool (dF k p x)) (asks k p x) w):=by
 have HB1:Hid (dF k p x=false):=hU (by rw [dF,hxn];show (!decide (0<x.a))=false;rw [decide_eq_true hxa];rfl);have HA:Hid (asks k p x={stops k p 3 x with s:=pM k.s ⟨til k.now x.a,p.pid⟩}):=hU (by rw [asks,hxn];exact if_pos hxa);obtain ⟨y,bs,hk0,hl⟩:=hk;have hbl:=hlt hk0;have hn:k.p.length≤1000000:=Nat.le_trans hf.n (by omega);have HF:=hU hf;have HX:=hU hx;clear hf hx;have hxc:x.cells[0]? =some (.int .u32 8):=by rw [← hxn];rfl
 clear hxn;obtain ⟨W0,hW0,K0,P0,X0,E0,L0,hz0,hzK,hzP,hzX⟩:=st2 p.cells 121 x.cells 119 hk0 hl;have kXn:W0.cell? ⟨w.heap.size + 1,0,none⟩=some (.int .u32 8):=(aC X0.out 0).trans hxc;have kXa:W0.cell? ⟨w.heap.size + 1,1,none⟩=some (.int .u32 x.a):=aC X0.out 1;have kP0:W0.cell? ⟨w.heap.size,0,none⟩=some (.int .i64 p.pid):=aC P0.out 0;go_in
 repeat' (first
  |(rw [hW0];clear hW0)
  |(refine aE (t:=121) (v:=.agg p.cells) rfl rfl rfl (aD aL P0.out rfl) ?_)
  |(refine aE (t:=119) (v:=.agg x.cells) rfl rfl rfl (aD dD X0.out rfl) ?_)
  |go_values|go_skip|go_guarded|refine wg ?_|go_step|go_upon)
 refine (qOi b k p 3 x _ ⟨_,_,K0.out,L0.out⟩ hn HF.out.t).mono ?_;rintro er W1 ⟨hret,⟨y1,bs1,hkk,hll⟩,hke⟩;have P1:=mB hke P0;have X1:=mB hke X0;have K1:=hU hkk;have E1:=mE hke E0;have L1:=hU hll;clear hkk hll hke;clear K0 P0 X0 E0 L0;obtain ⟨er2,rfl⟩:=hret;dsimp only;clear kXn kXa kP0;refine sg ?_;intros;refine wp_region_noPanic ?_;refine go0 (S:=fun W=> (W.cell? ⟨b,3,none⟩=some y1.s)∧(W.cell? ⟨b,7,none⟩=some (.int .u64 k.now))∧(W.cell? ⟨w.heap.size + 1,1,none⟩=some (.int .u32 x.a))∧(W.cell? ⟨w.heap.size,0,none⟩=some (.int .i64 p.pid))) [21] (⟨aC K1.out 3,aC K1.out 7,aC X1.out 1,aC P1.out 0⟩) fun hS=> ?_;obtain ⟨W2,hWd⟩:=exW W1.drew;obtain ⟨K2,P2,X2,E2,L2⟩:=n5 (dW hWd) K1 P1 X1 E1 L1;rw [hWd] at hS ⊢;clear hWd;clear K1 P1 X1 E1 L1;refine ts [.p 0,.p 1,.p 2,.p 3,.p 4,.l 5,.p 6,.p 7,.p 8,.p 9,.l 10,.p 11,.l 12,.p 14,.l 15] ?_;refine ro 13 fun K hK=> ?_;refine want rfl ?_;go_simp;refine (qJg k.now x.a _ HF.out.now0 HF.out.now1 HX.out.a0 HX.out.a1).mono ?_;rintro er W3 ⟨rfl,hb⟩;obtain ⟨K3,P3,X3,E3,L3⟩:=n5 hb K2 P2 X2 E2 L2;clear K2 P2 X2 E2 L2;clear hb;dsimp only;try clear hS
 refine nx hK (⟨aC K3.out 3,aC K3.out 7,aC X3.out 1,aC P3.out 0⟩) fun hS=> ?_;clear hK K;(try simp only [aF])
 refine tp 16 ?_;try simp only [aF]
 refine ro 17 fun K hK=> ?_;refine want rfl ?_;go_simp;refine (SAdd y1.s k.s ⟨til k.now x.a,p.pid⟩ _ L3.out.s (by have:=HF.out.a;omega)).mono ?_;rintro er W4 ⟨v9,rfl,ho,hb⟩;obtain ⟨K4,P4,X4,E4,L4⟩:=n5 hb K3 P3 X3 E3 L3;clear K3 P3 X3 E3 L3;clear hb;have SS4:=hU (KR.Own.sl pR ho);dsimp only;try clear hS
 refine nx hK (⟨aC K4.out 3,aC K4.out 7,aC X4.out 1,aC P4.out 0⟩) fun hS=> ?_;clear hK K;(try simp only [aF])
 refine ts [.p 18,.p 19,.p 20] ?_;refine ro 21 fun K hK=> ?_;refine kRs v9 3 {y1 with s:=v9} {stops k p 3 x with s:=pM k.s ⟨til k.now x.a,p.pid⟩} sG K4 E4 SS4 (L4.out.setS SS4.out) fun W5 hp L5 E5 K5=> ?_;have P5:=pT hp K4 P4;have X5:=pT hp K4 X4;have SS5:=hU (SS4.out.put K4.out hp (by decide));clear hp;clear K4 P4 X4 E4 L4 SS4;refine nt hK ?_;clear hK K;try clear hS
 (try simp only [aF])
 refine aZ (by kernel_rfl) (NoPanic.normal ?_) _;try clear hS
 clear SS5;refine sg ?_;intros;go_ret;rw [HB1.out,HA.out];exact ⟨rfl,⟨_,_,K5.out,L5.out⟩,E5.out⟩
theorem qRl (b:Nat) (k:aI) (p:Proc) (x:Call) (w:World) (hk:cH w b k) (hf:Fit k) (hx:nD x) (hxn:x.n=8) (hxa:¬ 0<x.a):
 Calls prog 86 #[.pointer (some ⟨b,0,none⟩),.agg p.cells,.agg x.cells] w (eN b (.bool (dF k p x)) (asks k p x) w):=by
 have HB1:Hid (dF k p x=true):=hU (by rw [dF,hxn];show (!decide (0<x.a))=true;rw [decide_eq_false hxa];rfl);have HA:Hid (asks k p x=answer k p x 0 0):=hU (by rw [asks,hxn];exact if_neg hxa);obtain ⟨y,bs,hk0,hl⟩:=hk;have hbl:=hlt hk0;have hn:k.p.length≤1000000:=Nat.le_trans hf.n (by omega);have HF:=hU hf;have HX:=hU hx;clear hf hx;have hxc:x.cells[0]? =some (.int .u32 8):=by rw [← hxn];rfl
 clear hxn;obtain ⟨W0,hW0,K0,P0,X0,E0,L0,hz0,hzK,hzP,hzX⟩:=st2 p.cells 121 x.cells 119 hk0 hl;have kXn:W0.cell? ⟨w.heap.size + 1,0,none⟩=some (.int .u32 8):=(aC X0.out 0).trans hxc;have kXa:W0.cell? ⟨w.heap.size + 1,1,none⟩=some (.int .u32 x.a):=aC X0.out 1;have kP0:W0.cell? ⟨w.heap.size,0,none⟩=some (.int .i64 p.pid):=aC P0.out 0;go_in
 repeat' (first
  |(rw [hW0];clear hW0)
  |(refine aE (t:=121) (v:=.agg p.cells) rfl rfl rfl (aD aL P0.out rfl) ?_)
  |(refine aE (t:=119) (v:=.agg x.cells) rfl rfl rfl (aD dD X0.out rfl) ?_)
  |go_values|go_skip|go_guarded|refine wg ?_|go_step|go_upon)
 refine (fL b k p x 0 0 _ ⟨_,_,K0.out,L0.out⟩ (by decide) (by decide) hn HF.out.tr).mono ?_;rintro er W1 ⟨hret,⟨y1,bs1,hkk,hll⟩,hke⟩;have P1:=mB hke P0;have X1:=mB hke X0;have K1:=hU hkk;have E1:=mE hke E0;have L1:=hU hll;clear hkk hll hke;clear K0 P0 X0 E0 L0;obtain ⟨er2,rfl⟩:=hret;dsimp only;refine sg ?_;intros;go_ret;rw [HB1.out,HA.out];exact ⟨rfl,⟨_,_,K1.out,L1.out⟩,E1.out⟩
theorem qOd (b:Nat) (k:aI) (p:Proc) (x:Call) (w:World) (hk:cH w b k) (hf:Fit k) (hx:nD x) (hxn:x.n=20) (hxa:3≤x.a):
 Calls prog 86 #[.pointer (some ⟨b,0,none⟩),.agg p.cells,.agg x.cells] w (eN b (.bool (dF k p x)) (asks k p x) w):=by
 have HB1:Hid (dF k p x=true):=hU (by rw [dF,hxn];rfl);have HA:Hid (asks k p x=answer k p x 0 1):=hU (by rw [asks,hxn];exact if_pos hxa);obtain ⟨y,bs,hk0,hl⟩:=hk;have hbl:=hlt hk0;have hn:k.p.length≤1000000:=Nat.le_trans hf.n (by omega);have HF:=hU hf;have HX:=hU hx;clear hf hx;have hxc:x.cells[0]? =some (.int .u32 20):=by rw [← hxn];rfl
 clear hxn;obtain ⟨W0,hW0,K0,P0,X0,E0,L0,hz0,hzK,hzP,hzX⟩:=st2 p.cells 121 x.cells 119 hk0 hl;have kXn:W0.cell? ⟨w.heap.size + 1,0,none⟩=some (.int .u32 20):=(aC X0.out 0).trans hxc;have kXa:W0.cell? ⟨w.heap.size + 1,1,none⟩=some (.int .u32 x.a):=aC X0.out 1;have kP0:W0.cell? ⟨w.heap.size,0,none⟩=some (.int .i64 p.pid):=aC P0.out 0;go_in
 repeat' (first
  |(rw [hW0];clear hW0)
  |(refine aE (t:=121) (v:=.agg p.cells) rfl rfl rfl (aD aL P0.out rfl) ?_)
  |(refine aE (t:=119) (v:=.agg x.cells) rfl rfl rfl (aD dD X0.out rfl) ?_)
  |go_values|go_skip|go_guarded|refine wg ?_|go_step|go_upon)
 refine (fL b k p x 0 1 _ ⟨_,_,K0.out,L0.out⟩ (by decide) (by decide) hn HF.out.tr).mono ?_;rintro er W1 ⟨hret,⟨y1,bs1,hkk,hll⟩,hke⟩;have P1:=mB hke P0;have X1:=mB hke X0;have K1:=hU hkk;have E1:=mE hke E0;have L1:=hU hll;clear hkk hll hke;clear K0 P0 X0 E0 L0;obtain ⟨er2,rfl⟩:=hret;dsimp only;refine sg ?_;intros;go_ret;rw [HB1.out,HA.out];exact ⟨rfl,⟨_,_,K1.out,L1.out⟩,E1.out⟩
theorem qOe (b:Nat) (k:aI) (p:Proc) (x:Call) (w:World) (hk:cH w b k) (hf:Fit k) (hx:nD x) (hxn:x.n=20) (hxa:¬ 3≤x.a):
 Calls prog 86 #[.pointer (some ⟨b,0,none⟩),.agg p.cells,.agg x.cells] w (eN b (.bool (dF k p x)) (asks k p x) w):=by
 have HB1:Hid (dF k p x=true):=hU (by rw [dF,hxn];rfl);have HA:Hid (asks k p x=answer {k with want:=3 + x.a} p x 0 0):=hU (by rw [asks,hxn];exact if_neg hxa);have hw1:IntKind.i64.wrap x.a=x.a:=by have:=hx.a0;rw [IntKind.wrap_i64];omega
 have hw2:IntKind.i64.wrap (3 + x.a)=3 + x.a:=by have:=hx.a0;rw [IntKind.wrap_i64];omega
 obtain ⟨y,bs,hk0,hl⟩:=hk;have hbl:=hlt hk0;have hn:k.p.length≤1000000:=Nat.le_trans hf.n (by omega);have HF:=hU hf;have HX:=hU hx;clear hf hx;have hxc:x.cells[0]? =some (.int .u32 20):=by rw [← hxn];rfl
 clear hxn;obtain ⟨W0,hW0,K0,P0,X0,E0,L0,hz0,hzK,hzP,hzX⟩:=st2 p.cells 121 x.cells 119 hk0 hl;have kXn:W0.cell? ⟨w.heap.size + 1,0,none⟩=some (.int .u32 20):=(aC X0.out 0).trans hxc;have kXa:W0.cell? ⟨w.heap.size + 1,1,none⟩=some (.int .u32 x.a):=aC X0.out 1;have kP0:W0.cell? ⟨w.heap.size,0,none⟩=some (.int .i64 p.pid):=aC P0.out 0;go_in
 repeat' (first
  |(rw [hW0];clear hW0)
  |(refine kS 3 (.int .i64 (3 + x.a)) 15 y {k with want:=3 + x.a} cO K0 E0 (L0.out.pN (3 + x.a)) fun W1 hp L1 E1 K1=> ?_
    have P1:=pT hp K0 P0;have X1:=pT hp K0 X0;clear hp;clear K0 P0 X0 E0 L0)
  |(refine aE (t:=121) (v:=.agg p.cells) rfl rfl rfl (aD aL P1.out rfl) ?_)
  |(refine aE (t:=119) (v:=.agg x.cells) rfl rfl rfl (aD dD X1.out rfl) ?_)
  |go_values|go_skip|go_guarded|refine wg ?_|go_step|go_upon)
 refine (fL b {k with want:=3 + x.a} p x 0 0 _ ⟨_,_,K1.out,L1.out⟩ (by decide) (by decide) hn HF.out.tr).mono ?_;rintro er W2 ⟨hret,⟨y2,bs2,hkk,hll⟩,hke⟩;have P2:=mB hke P1;have X2:=mB hke X1;have K2:=hU hkk;have E2:=mE hke E1;have L2:=hU hll;clear hkk hll hke;clear K1 P1 X1 E1 L1;obtain ⟨er2,rfl⟩:=hret;dsimp only;refine sg ?_;intros;go_ret;rw [HB1.out,HA.out];exact ⟨rfl,⟨_,_,K2.out,L2.out⟩,E2.out⟩
theorem qRg (b:Nat) (k:aI) (p:Proc) (x:Call) (w:World) (hk:cH w b k) (hf:Fit k) (hx:nD x) (hxn:x.n=18) (hw0: -1000000≤k.want) (hw1:k.want≤1000000):
 Calls prog 86 #[.pointer (some ⟨b,0,none⟩),.agg p.cells,.agg x.cells] w (eN b (.bool (dF k p x)) (asks k p x) w):=by
 have HB1:Hid (dF k p x=true):=hU (by rw [dF,hxn];rfl);have HA:Hid (asks k p x=answer {k with want:=k.want + 1} p x 0 0):=hU (by rw [asks,hxn];rfl);have hw2:IntKind.i64.wrap (k.want + 1)=k.want + 1:=by rw [IntKind.wrap_i64];omega
 have hw3:IntKind.i64.wrap (k.want + 1 + 1)=k.want + 1 + 1:=by rw [IntKind.wrap_i64];omega
 obtain ⟨y,bs,hk0,hl⟩:=hk;have hbl:=hlt hk0;have hn:k.p.length≤1000000:=Nat.le_trans hf.n (by omega);have HF:=hU hf;have HX:=hU hx;clear hf hx;have hxc:x.cells[0]? =some (.int .u32 18):=by rw [← hxn];rfl
 clear hxn;obtain ⟨W0,hW0,K0,P0,X0,E0,L0,hz0,hzK,hzP,hzX⟩:=st2 p.cells 121 x.cells 119 hk0 hl;have kXn:W0.cell? ⟨w.heap.size + 1,0,none⟩=some (.int .u32 18):=(aC X0.out 0).trans hxc;have kXa:W0.cell? ⟨w.heap.size + 1,1,none⟩=some (.int .u32 x.a):=aC X0.out 1;have kP0:W0.cell? ⟨w.heap.size,0,none⟩=some (.int .i64 p.pid):=aC P0.out 0;have kW0:W0.cell? ⟨b,15,none⟩=some (.int .i64 k.want):=aC K0.out 15;go_in
 repeat' (first
  |(rw [hW0];clear hW0)
  |(refine kS 3 (.int .i64 (k.want + 1)) 15 y {k with want:=k.want + 1} cO K0 E0 (L0.out.pN (k.want + 1)) fun W1 hp L1 E1 K1=> ?_
    have P1:=pT hp K0 P0;have X1:=pT hp K0 X0;clear hp;clear K0 P0 X0 E0 L0)
  |(refine aE (t:=121) (v:=.agg p.cells) rfl rfl rfl (aD aL P1.out rfl) ?_)
  |(refine aE (t:=119) (v:=.agg x.cells) rfl rfl rfl (aD dD X1.out rfl) ?_)
  |go_values|go_skip|go_guarded|refine wg ?_|go_step|go_upon)
 refine (fL b {k with want:=k.want + 1} p x 0 0 _ ⟨_,_,K1.out,L1.out⟩ (by decide) (by decide) hn HF.out.tr).mono ?_;rintro er W2 ⟨hret,⟨y2,bs2,hkk,hll⟩,hke⟩;have P2:=mB hke P1;have X2:=mB hke X1;have K2:=hU hkk;have E2:=mE hke E1;have L2:=hU hll;clear hkk hll hke;clear K1 P1 X1 E1 L1;obtain ⟨er2,rfl⟩:=hret;dsimp only;refine sg ?_;intros;go_ret;rw [HB1.out,HA.out];exact ⟨rfl,⟨_,_,K2.out,L2.out⟩,E2.out⟩
theorem qRh (b:Nat) (k:aI) (p:Proc) (x:Call) (w:World) (hk:cH w b k) (hf:Fit k) (hx:nD x) (hxn:x.n=19) (hw0: -1000000≤k.want) (hw1:k.want≤1000000):
 Calls prog 86 #[.pointer (some ⟨b,0,none⟩),.agg p.cells,.agg x.cells] w (eN b (.bool (dF k p x)) (asks k p x) w):=by
 have HB1:Hid (dF k p x=true):=hU (by rw [dF,hxn];rfl);have HA:Hid (asks k p x=answer {k with want:=k.want + 1 + 1} p x 0 0):=hU (by rw [asks,hxn];rfl);have hw2:IntKind.i64.wrap (k.want + 1)=k.want + 1:=by rw [IntKind.wrap_i64];omega
 have hw3:IntKind.i64.wrap (k.want + 1 + 1)=k.want + 1 + 1:=by rw [IntKind.wrap_i64];omega
 obtain ⟨y,bs,hk0,hl⟩:=hk;have hbl:=hlt hk0;have hn:k.p.length≤1000000:=Nat.le_trans hf.n (by omega);have HF:=hU hf;have HX:=hU hx;clear hf hx;have hxc:x.cells[0]? =some (.int .u32 19):=by rw [← hxn];rfl
 clear hxn;obtain ⟨W0,hW0,K0,P0,X0,E0,L0,hz0,hzK,hzP,hzX⟩:=st2 p.cells 121 x.cells 119 hk0 hl;have kXn:W0.cell? ⟨w.heap.size + 1,0,none⟩=some (.int .u32 19):=(aC X0.out 0).trans hxc;have kXa:W0.cell? ⟨w.heap.size + 1,1,none⟩=some (.int .u32 x.a):=aC X0.out 1;have kP0:W0.cell? ⟨w.heap.size,0,none⟩=some (.int .i64 p.pid):=aC P0.out 0;have kW0:W0.cell? ⟨b,15,none⟩=some (.int .i64 k.want):=aC K0.out 15;go_in
 repeat' (first
  |(rw [hW0];clear hW0)
  |(refine kS 3 (.int .i64 (k.want + 1)) 15 y {k with want:=k.want + 1} cO K0 E0 (L0.out.pN (k.want + 1)) fun W1 hp L1 E1 K1=> ?_
    have P1:=pT hp K0 P0;have X1:=pT hp K0 X0;clear hp;clear K0 P0 X0 E0 L0;have kW1:W1.cell? ⟨b,15,none⟩=some (.int .i64 (k.want + 1)):=aC K1.out 15)
  |(refine kS 3 (.int .i64 (k.want + 1 + 1)) 15 y {k with want:=k.want + 1 + 1} cO K1 E1 (L1.out.pN (k.want + 1 + 1)) fun W2 hp L2 E2 K2=> ?_
    have P2:=pT hp K1 P1;have X2:=pT hp K1 X1;clear hp;clear K1 P1 X1 E1 L1)
  |(refine aE (t:=121) (v:=.agg p.cells) rfl rfl rfl (aD aL P2.out rfl) ?_)
  |(refine aE (t:=119) (v:=.agg x.cells) rfl rfl rfl (aD dD X2.out rfl) ?_)
  |go_values|go_skip|go_guarded|refine wg ?_|go_step|go_upon)
 refine (fL b {k with want:=k.want + 1 + 1} p x 0 0 _ ⟨_,_,K2.out,L2.out⟩ (by decide) (by decide) hn HF.out.tr).mono ?_;rintro er W3 ⟨hret,⟨y3,bs3,hkk,hll⟩,hke⟩;have P3:=mB hke P2;have X3:=mB hke X2;have K3:=hU hkk;have E3:=mE hke E2;have L3:=hU hll;clear hkk hll hke;clear K2 P2 X2 E2 L2;obtain ⟨er2,rfl⟩:=hret;dsimp only;refine sg ?_;intros;go_ret;rw [HB1.out,HA.out];exact ⟨rfl,⟨_,_,K3.out,L3.out⟩,E3.out⟩
theorem qVw (b:Nat) (k:aI) (p:Proc) (x:Call) (w:World) (hk:cH w b k) (hf:Fit k) (hx:nD x) (hxn:x.n=5):
 Calls prog 86 #[.pointer (some ⟨b,0,none⟩),.agg p.cells,.agg x.cells] w (eN b (.bool (dF k p x)) (asks k p x) w):=by
 have HB1:Hid (dF k p x=lL k p x):=hU (by rw [dF,hxn];rfl);have HA:Hid (asks k p x=jR k p x):=hU (by rw [asks,hxn];rfl);obtain ⟨y,bs,hk0,hl⟩:=hk;have hbl:=hlt hk0;have hn:k.p.length≤1000000:=Nat.le_trans hf.n (by omega);have HF:=hU hf;have HX:=hU hx;clear hf hx;have hxc:x.cells[0]? =some (.int .u32 5):=by rw [← hxn];rfl
 clear hxn;obtain ⟨W0,hW0,K0,P0,X0,E0,L0,hz0,hzK,hzP,hzX⟩:=st2 p.cells 121 x.cells 119 hk0 hl;have kXn:W0.cell? ⟨w.heap.size + 1,0,none⟩=some (.int .u32 5):=(aC X0.out 0).trans hxc;have kXa:W0.cell? ⟨w.heap.size + 1,1,none⟩=some (.int .u32 x.a):=aC X0.out 1;have kP0:W0.cell? ⟨w.heap.size,0,none⟩=some (.int .i64 p.pid):=aC P0.out 0;go_in
 repeat' (first
  |(rw [hW0];clear hW0)
  |(refine aE (t:=121) (v:=.agg p.cells) rfl rfl rfl (aD aL P0.out rfl) ?_)
  |(refine aE (t:=119) (v:=.agg x.cells) rfl rfl rfl (aD dD X0.out rfl) ?_)
  |go_values|go_skip|go_guarded|refine wg ?_|go_step|go_upon)
 refine (qWc b k p x _ ⟨_,_,K0.out,L0.out⟩ HF.out HX.out).mono ?_;rintro er W1 ⟨hret,⟨y1,bs1,hkk,hll⟩,hke⟩;have P1:=mB hke P0;have X1:=mB hke X0;have K1:=hU hkk;have E1:=mE hke E0;have L1:=hU hll;clear hkk hll hke;clear K0 P0 X0 E0 L0;subst hret;dsimp only;refine sg ?_;intros;go_ret;rw [HB1.out,HA.out];exact ⟨rfl,⟨_,_,K1.out,L1.out⟩,E1.out⟩
