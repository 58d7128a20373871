/- work.asks: the call of the process whose turn it is. Conditions: as many as Go can hold; the process is in the table. -/
import Derived.Test.YtkepkcjjenidgaaGreatDoorGFit
import Derived.Test.YtkepkcjjenidgaaGreatDoorKwTries
import Derived.Test.YtkepkcjjenidgaaGreatDoorKwKills
import Derived.Test.YtkepkcjjenidgaaGreatDoorGEnd
import Derived.Test.YtkepkcjjenidgaaGreatDoorGSeg
import Derived.Test.YtkepkcjjenidgaaGreatDoorKwFresh
import Derived.Test.YtkepkcjjenidgaaGreatDoorGSlp
import Derived.Test.YtkepkcjjenidgaaGreatDoorGTurn
set_option linter.unusedVariables false
set_option maxRecDepth 100000
set_option maxHeartbeats 8000000
set_option linter.unusedSimpArgs false
namespace Go.Proofs.YtkepkcjjenidgaaGreatDoor
open Go.RowKit KR RegT3
namespace Kn
theorem WAsks1 (b:Nat) (k:Kern) (p:Proc) (x:Call) (w:World) (hk:WorkAt w b k) (hf:Fit k) (hx:CFit x) (hxn:x.n=1):
 Calls Tryz.prog 130 #[.pointer (some ⟨b,0,none⟩),.agg p.cells,.agg x.cells] w (GivesW b (.bool (asksB k p x)) (asks k p x) w):=by
 have HB1:Hid (asksB k p x=false):=hU (by rw [asksB,hxn];rfl)
 have HA:Hid (asks k p x=ends k p.pid (x.a % 256) 0):=hU (by rw [asks,hxn];rfl)
 have htm:wrap64 (x.a.tmod 256)=x.a % 256:=by rw [Int.tmod_eq_emod_of_nonneg hx.a0];unfold wrap64;omega
 have HTM:=hU htm
 clear htm
 obtain ⟨y,bs,hk0,hl⟩:=hk
 have hbl:=hlt hk0
 have hn:k.p.length≤1000000:=Nat.le_trans hf.n (by omega)
 have HF:=hU hf
 have HX:=hU hx
 clear hf hx
 have hxc:x.cells[0]? =some (.int .u32 1):=by rw [← hxn];rfl
 clear hxn
 obtain ⟨W0,hW0,HK_0,HP_0,HX_0,HE_0,HL_0,hz0,hzK,hzP,hzX⟩:=st2 p.cells 167 x.cells 165 hk0 hl
 have kXn:W0.cell? ⟨w.heap.size + 1,0,none⟩=some (.int .u32 1):=(hcell HX_0.out 0).trans hxc
 have kXa:W0.cell? ⟨w.heap.size + 1,1,none⟩=some (.int .u32 x.a):=hcell HX_0.out 1
 have kP0:W0.cell? ⟨w.heap.size,0,none⟩=some (.int .i64 p.pid):=hcell HP_0.out 0
 go_enter Tryz.func130,Tryz.ntmps130
 repeat' (first
  |(rw [hW0];clear hW0)
  |go_values|go_skip|go_guarded|(with_reducible refine wg ?_)|go_step|go_upon)
 rw [HTM.out]
 refine (WEnds b k p.pid (x.a % 256) 0 _ ⟨_,_,HK_0.out,HL_0.out⟩ hn HF.out.t HF.out.a HF.out.pl HF.out.pb HF.out.hl (by decide) (by decide)).mono ?_
 rintro er W1 ⟨hret,⟨y1,bs1,hkk,hll⟩,hke⟩
 have HP_1:=mB hke HP_0
 have HX_1:=mB hke HX_0
 have HK_1:=hU hkk
 have HE_1:=mE hke HE_0
 have HL_1:=hU hll
 clear hkk hll hke
 clear HK_0 HP_0 HX_0 HE_0 HL_0
 obtain ⟨er2,rfl⟩:=hret
 dsimp only
 repeat' (first|go_values|go_skip|go_guarded|(with_reducible refine wg ?_)|go_step|go_upon)
 go_ret
 rw [HB1.out,HA.out]
 exact ⟨rfl,⟨_,_,HK_1.out,HL_1.out⟩,HE_1.out⟩
theorem WAsks7 (b:Nat) (k:Kern) (p:Proc) (x:Call) (w:World) (hk:WorkAt w b k) (hf:Fit k) (hx:CFit x) (hxn:x.n=7):
 Calls Tryz.prog 130 #[.pointer (some ⟨b,0,none⟩),.agg p.cells,.agg x.cells] w (GivesW b (.bool (asksB k p x)) (asks k p x) w):=by
 have HB1:Hid (asksB k p x=false):=hU (by rw [asksB,hxn];rfl)
 have HA:Hid (asks k p x={answer k p x 0 0 with t:=tyield k.t}):=hU (by rw [asks,hxn];rfl)
 obtain ⟨y,bs,hk0,hl⟩:=hk
 have hbl:=hlt hk0
 have hn:k.p.length≤1000000:=Nat.le_trans hf.n (by omega)
 have HF:=hU hf
 have HX:=hU hx
 clear hf hx
 have hxc:x.cells[0]? =some (.int .u32 7):=by rw [← hxn];rfl
 clear hxn
 obtain ⟨W0,hW0,HK_0,HP_0,HX_0,HE_0,HL_0,hz0,hzK,hzP,hzX⟩:=st2 p.cells 167 x.cells 165 hk0 hl
 have kXn:W0.cell? ⟨w.heap.size + 1,0,none⟩=some (.int .u32 7):=(hcell HX_0.out 0).trans hxc
 have kXa:W0.cell? ⟨w.heap.size + 1,1,none⟩=some (.int .u32 x.a):=hcell HX_0.out 1
 have kP0:W0.cell? ⟨w.heap.size,0,none⟩=some (.int .i64 p.pid):=hcell HP_0.out 0
 go_enter Tryz.func130,Tryz.ntmps130
 repeat' (first
  |(rw [hW0];clear hW0)
  |(refine wpList_load (t:=167) (v:=.agg p.cells) rfl rfl rfl (run_load_whole aggProc HP_0.out rfl) ?_)
  |(refine wpList_load (t:=165) (v:=.agg x.cells) rfl rfl rfl (run_load_whole aggCall HX_0.out rfl) ?_)
  |go_values|go_skip|go_guarded|(with_reducible refine wg ?_)|go_step|go_upon)
 refine (WAnswer b k p x 0 0 _ ⟨_,_,HK_0.out,HL_0.out⟩ (by decide) (by decide) hn HF.out.tr).mono ?_
 rintro er W1 ⟨hret,⟨y1,bs1,hkk,hll⟩,hke⟩
 have HP_1:=mB hke HP_0
 have HX_1:=mB hke HX_0
 have HK_1:=hU hkk
 have HE_1:=mE hke HE_0
 have HL_1:=hU hll
 clear hkk hll hke
 clear HK_0 HP_0 HX_0 HE_0 HL_0
 obtain ⟨er2,rfl⟩:=hret
 dsimp only
 clear kXn kXa kP0
 have kT1:W1.cell? ⟨b,1,none⟩=some y1.t:=hcell HK_1.out 1
 have kT2:W1.cell? ⟨b,2,none⟩=some (.int .i64 k.t.left):=hcell HK_1.out 2
 repeat' (first
  |go_values|go_skip|go_guarded|(with_reducible refine wg ?_)|go_step|go_upon)
 refine (TYield _ k.t _ ⟨y1.t,rfl,HL_1.out.t⟩ (by have:=HF.out.t;omega)).mono ?_
 rintro er W2 ⟨v7,rfl,⟨u7,rfl,ht7⟩,hb⟩
 have HK_2:=nB hb HK_1
 have HP_2:=nB hb HP_1
 have HX_2:=nB hb HX_1
 have HE_2:=nE hb HE_1
 have HL_2:=nL hb HL_1
 clear HK_1 HP_1 HX_1 HE_1 HL_1
 clear hb kT1 kT2
 have ST_2:=hU ht7
 clear ht7
 dsimp only
 repeat' (first
  |(refine wpList_store (t:=45) (v:=.agg #[u7,.int .i64 (tyield k.t).left]) (off:=1) (new:=kcells {y1 with t:=u7} {answer k p x 0 0 with t:=tyield k.t}) rfl rfl rfl rfl aggTurn.size HK_2.out rfl (show 1 + 2≤17 by decide) (onesT ST_2.out) rfl ?_;intro W3 hp
    have HL_3:Hid (LayAt W3 {y1 with t:=u7} bs1 {answer k p x 0 0 with t:=tyield k.t}):=hU ((HL_2.out.setT ST_2.out).put HK_2.out noWork hp)
    have HE_3:=pK hp HE_2
    have HK_3:Hid (W3.heap[b]? =some (.cells (kcells {y1 with t:=u7} {answer k p x 0 0 with t:=tyield k.t}) 178 (0,0))):=pA hp
    have HP_3:=pT hp HK_2 HP_2
    have HX_3:=pT hp HK_2 HX_2
    have ST_3:=hU (ST_2.out.put HK_2.out hp (by decide))
    clear hp
    clear HK_2 HP_2 HX_2 HE_2 HL_2 ST_2)
  |go_values|go_skip|go_guarded|(with_reducible refine wg ?_)|go_step|go_upon)
 clear ST_3
 repeat' (first|go_values|go_skip|go_guarded|(with_reducible refine wg ?_)|go_step|go_upon)
 go_ret
 rw [HB1.out,HA.out]
 exact ⟨rfl,⟨_,_,HK_3.out,HL_3.out⟩,HE_3.out⟩
theorem WAsks8a (b:Nat) (k:Kern) (p:Proc) (x:Call) (w:World) (hk:WorkAt w b k) (hf:Fit k) (hx:CFit x) (hxn:x.n=8) (hxa:0<x.a):
 Calls Tryz.prog 130 #[.pointer (some ⟨b,0,none⟩),.agg p.cells,.agg x.cells] w (GivesW b (.bool (asksB k p x)) (asks k p x) w):=by
 have HB1:Hid (asksB k p x=false):=hU (by rw [asksB,hxn];show (!decide (0<x.a))=false;rw [decide_eq_true hxa];rfl)
 have HA:Hid (asks k p x={stops k p 3 x with s:=sadd k.s ⟨til k.now x.a,p.pid⟩}):=hU (by rw [asks,hxn];exact if_pos hxa)
 obtain ⟨y,bs,hk0,hl⟩:=hk
 have hbl:=hlt hk0
 have hn:k.p.length≤1000000:=Nat.le_trans hf.n (by omega)
 have HF:=hU hf
 have HX:=hU hx
 clear hf hx
 have hxc:x.cells[0]? =some (.int .u32 8):=by rw [← hxn];rfl
 clear hxn
 obtain ⟨W0,hW0,HK_0,HP_0,HX_0,HE_0,HL_0,hz0,hzK,hzP,hzX⟩:=st2 p.cells 167 x.cells 165 hk0 hl
 have kXn:W0.cell? ⟨w.heap.size + 1,0,none⟩=some (.int .u32 8):=(hcell HX_0.out 0).trans hxc
 have kXa:W0.cell? ⟨w.heap.size + 1,1,none⟩=some (.int .u32 x.a):=hcell HX_0.out 1
 have kP0:W0.cell? ⟨w.heap.size,0,none⟩=some (.int .i64 p.pid):=hcell HP_0.out 0
 go_enter Tryz.func130,Tryz.ntmps130
 repeat' (first
  |(rw [hW0];clear hW0)
  |(refine wpList_load (t:=167) (v:=.agg p.cells) rfl rfl rfl (run_load_whole aggProc HP_0.out rfl) ?_)
  |(refine wpList_load (t:=165) (v:=.agg x.cells) rfl rfl rfl (run_load_whole aggCall HX_0.out rfl) ?_)
  |go_values|go_skip|go_guarded|(with_reducible refine wg ?_)|go_step|go_upon)
 refine (WStops b k p 3 x _ ⟨_,_,HK_0.out,HL_0.out⟩ hn HF.out.t).mono ?_
 rintro er W1 ⟨hret,⟨y1,bs1,hkk,hll⟩,hke⟩
 have HP_1:=mB hke HP_0
 have HX_1:=mB hke HX_0
 have HK_1:=hU hkk
 have HE_1:=mE hke HE_0
 have HL_1:=hU hll
 clear hkk hll hke
 clear HK_0 HP_0 HX_0 HE_0 HL_0
 obtain ⟨er2,rfl⟩:=hret
 dsimp only
 clear kXn kXa kP0
 repeat' (first
  |go_values|go_skip|go_guarded|(with_reducible refine wg ?_)|go_step|go_upon)
 refine wp_region_noPanic ?_
 refine go0 (S:=fun W=> (W.cell? ⟨b,3,none⟩=some y1.s)∧(W.cell? ⟨b,7,none⟩=some (.int .u64 k.now))∧(W.cell? ⟨w.heap.size + 1,1,none⟩=some (.int .u32 x.a))∧(W.cell? ⟨w.heap.size,0,none⟩=some (.int .i64 p.pid))) [21] (⟨hcell HK_1.out 3,hcell HK_1.out 7,hcell HX_1.out 1,hcell HP_1.out 0⟩) fun hS=> ?_
 obtain ⟨W2,hWd⟩:=exW W1.drew
 have HK_2:=dB hWd HK_1
 have HP_2:=dB hWd HP_1
 have HX_2:=dB hWd HX_1
 have HE_2:=dE hWd HE_1
 have HL_2:=dL hWd HL_1
 rw [hWd] at hS ⊢
 clear hWd
 clear HK_1 HP_1 HX_1 HE_1 HL_1
 refine tp 0 ?_;try simp only [acts]
 refine tp 1 ?_;try simp only [acts]
 refine tp 2 ?_;try simp only [acts]
 refine tp 3 ?_;try simp only [acts]
 refine tp 4 ?_;try simp only [acts]
 refine tl 5 ?_;try simp only [acts]
 refine tp 6 ?_;try simp only [acts]
 refine tp 7 ?_;try simp only [acts]
 refine tp 8 ?_;try simp only [acts]
 refine tp 9 ?_;try simp only [acts]
 refine tl 10 ?_;try simp only [acts]
 refine tp 11 ?_;try simp only [acts]
 refine tl 12 ?_;try simp only [acts]
 refine tp 14 ?_;try simp only [acts]
 refine tl 15 ?_;try simp only [acts]
 refine ro 13 fun K hK=> ?_
 refine want rfl ?_
 go_simp
 refine (Until k.now x.a _ HF.out.now0 HF.out.now1 HX.out.a0 HX.out.a1).mono ?_
 rintro er W3 ⟨rfl,hb⟩
 have HK_3:=nB hb HK_2
 have HP_3:=nB hb HP_2
 have HX_3:=nB hb HX_2
 have HE_3:=nE hb HE_2
 have HL_3:=nL hb HL_2
 clear HK_2 HP_2 HX_2 HE_2 HL_2
 clear hb
 dsimp only
 try clear hS
 refine nx hK (⟨hcell HK_3.out 3,hcell HK_3.out 7,hcell HX_3.out 1,hcell HP_3.out 0⟩) fun hS=> ?_
 clear hK K
 (try simp only [acts])
 refine tp 16 ?_;try simp only [acts]
 refine ro 17 fun K hK=> ?_
 refine want rfl ?_
 go_simp
 refine (SAdd y1.s k.s ⟨til k.now x.a,p.pid⟩ _ HL_3.out.s (by have:=HF.out.a;omega)).mono ?_
 rintro er W4 ⟨v9,rfl,ho,hb⟩
 have HK_4:=nB hb HK_3
 have HP_4:=nB hb HP_3
 have HX_4:=nB hb HX_3
 have HE_4:=nE hb HE_3
 have HL_4:=nL hb HL_3
 clear HK_3 HP_3 HX_3 HE_3 HL_3
 clear hb
 have SS_4:=hU (KR.Own.sl szAlarm ho)
 dsimp only
 try clear hS
 refine nx hK (⟨hcell HK_4.out 3,hcell HK_4.out 7,hcell HX_4.out 1,hcell HP_4.out 0⟩) fun hS=> ?_
 clear hK K
 (try simp only [acts])
 refine tp 18 ?_;try simp only [acts]
 refine tp 19 ?_;try simp only [acts]
 refine tp 20 ?_;try simp only [acts]
 refine ro 21 fun K hK=> ?_
 refine want rfl ?_
 refine wp_store1 (v:=v9) (off:=3) (new:=kcells {y1 with s:=v9} {stops k p 3 x with s:=sadd k.s ⟨til k.now x.a,p.pid⟩}) rfl rfl rfl oneSAlarm HK_4.out SS_4.out.vcells SS_4.out.vone (show 3 + 1≤17 by decide) rfl ?_
 intro W5 hp
 have HL_5:Hid (LayAt W5 {y1 with s:=v9} bs1 {stops k p 3 x with s:=sadd k.s ⟨til k.now x.a,p.pid⟩}):=hU ((HL_4.out.setS SS_4.out).put HK_4.out noWork hp)
 have HE_5:=pK hp HE_4
 have HK_5:Hid (W5.heap[b]? =some (.cells (kcells {y1 with s:=v9} {stops k p 3 x with s:=sadd k.s ⟨til k.now x.a,p.pid⟩}) 178 (0,0))):=pA hp
 have HP_5:=pT hp HK_4 HP_4
 have HX_5:=pT hp HK_4 HX_4
 have SS_5:=hU (SS_4.out.put HK_4.out hp (by decide))
 clear hp
 clear HK_4 HP_4 HX_4 HE_4 HL_4 SS_4
 refine nt hK ?_
 clear hK K
 try clear hS
 (try simp only [acts])
 refine doneL (by kernel_rfl) (NoPanic.normal ?_) _
 try clear hS
 clear SS_5
 repeat' (first|go_values|go_skip|go_guarded|(with_reducible refine wg ?_)|go_step|go_upon)
 go_ret
 rw [HB1.out,HA.out]
 exact ⟨rfl,⟨_,_,HK_5.out,HL_5.out⟩,HE_5.out⟩
theorem WAsks8b (b:Nat) (k:Kern) (p:Proc) (x:Call) (w:World) (hk:WorkAt w b k) (hf:Fit k) (hx:CFit x) (hxn:x.n=8) (hxa:¬ 0<x.a):
 Calls Tryz.prog 130 #[.pointer (some ⟨b,0,none⟩),.agg p.cells,.agg x.cells] w (GivesW b (.bool (asksB k p x)) (asks k p x) w):=by
 have HB1:Hid (asksB k p x=true):=hU (by rw [asksB,hxn];show (!decide (0<x.a))=true;rw [decide_eq_false hxa];rfl)
 have HA:Hid (asks k p x=answer k p x 0 0):=hU (by rw [asks,hxn];exact if_neg hxa)
 obtain ⟨y,bs,hk0,hl⟩:=hk
 have hbl:=hlt hk0
 have hn:k.p.length≤1000000:=Nat.le_trans hf.n (by omega)
 have HF:=hU hf
 have HX:=hU hx
 clear hf hx
 have hxc:x.cells[0]? =some (.int .u32 8):=by rw [← hxn];rfl
 clear hxn
 obtain ⟨W0,hW0,HK_0,HP_0,HX_0,HE_0,HL_0,hz0,hzK,hzP,hzX⟩:=st2 p.cells 167 x.cells 165 hk0 hl
 have kXn:W0.cell? ⟨w.heap.size + 1,0,none⟩=some (.int .u32 8):=(hcell HX_0.out 0).trans hxc
 have kXa:W0.cell? ⟨w.heap.size + 1,1,none⟩=some (.int .u32 x.a):=hcell HX_0.out 1
 have kP0:W0.cell? ⟨w.heap.size,0,none⟩=some (.int .i64 p.pid):=hcell HP_0.out 0
 go_enter Tryz.func130,Tryz.ntmps130
 repeat' (first
  |(rw [hW0];clear hW0)
  |(refine wpList_load (t:=167) (v:=.agg p.cells) rfl rfl rfl (run_load_whole aggProc HP_0.out rfl) ?_)
  |(refine wpList_load (t:=165) (v:=.agg x.cells) rfl rfl rfl (run_load_whole aggCall HX_0.out rfl) ?_)
  |go_values|go_skip|go_guarded|(with_reducible refine wg ?_)|go_step|go_upon)
 refine (WAnswer b k p x 0 0 _ ⟨_,_,HK_0.out,HL_0.out⟩ (by decide) (by decide) hn HF.out.tr).mono ?_
 rintro er W1 ⟨hret,⟨y1,bs1,hkk,hll⟩,hke⟩
 have HP_1:=mB hke HP_0
 have HX_1:=mB hke HX_0
 have HK_1:=hU hkk
 have HE_1:=mE hke HE_0
 have HL_1:=hU hll
 clear hkk hll hke
 clear HK_0 HP_0 HX_0 HE_0 HL_0
 obtain ⟨er2,rfl⟩:=hret
 dsimp only
 repeat' (first|go_values|go_skip|go_guarded|(with_reducible refine wg ?_)|go_step|go_upon)
 go_ret
 rw [HB1.out,HA.out]
 exact ⟨rfl,⟨_,_,HK_1.out,HL_1.out⟩,HE_1.out⟩
theorem WAsks20a (b:Nat) (k:Kern) (p:Proc) (x:Call) (w:World) (hk:WorkAt w b k) (hf:Fit k) (hx:CFit x) (hxn:x.n=20) (hxa:3≤x.a):
 Calls Tryz.prog 130 #[.pointer (some ⟨b,0,none⟩),.agg p.cells,.agg x.cells] w (GivesW b (.bool (asksB k p x)) (asks k p x) w):=by
 have HB1:Hid (asksB k p x=true):=hU (by rw [asksB,hxn];rfl)
 have HA:Hid (asks k p x=answer k p x 0 1):=hU (by rw [asks,hxn];exact if_pos hxa)
 obtain ⟨y,bs,hk0,hl⟩:=hk
 have hbl:=hlt hk0
 have hn:k.p.length≤1000000:=Nat.le_trans hf.n (by omega)
 have HF:=hU hf
 have HX:=hU hx
 clear hf hx
 have hxc:x.cells[0]? =some (.int .u32 20):=by rw [← hxn];rfl
 clear hxn
 obtain ⟨W0,hW0,HK_0,HP_0,HX_0,HE_0,HL_0,hz0,hzK,hzP,hzX⟩:=st2 p.cells 167 x.cells 165 hk0 hl
 have kXn:W0.cell? ⟨w.heap.size + 1,0,none⟩=some (.int .u32 20):=(hcell HX_0.out 0).trans hxc
 have kXa:W0.cell? ⟨w.heap.size + 1,1,none⟩=some (.int .u32 x.a):=hcell HX_0.out 1
 have kP0:W0.cell? ⟨w.heap.size,0,none⟩=some (.int .i64 p.pid):=hcell HP_0.out 0
 go_enter Tryz.func130,Tryz.ntmps130
 repeat' (first
  |(rw [hW0];clear hW0)
  |(refine wpList_load (t:=167) (v:=.agg p.cells) rfl rfl rfl (run_load_whole aggProc HP_0.out rfl) ?_)
  |(refine wpList_load (t:=165) (v:=.agg x.cells) rfl rfl rfl (run_load_whole aggCall HX_0.out rfl) ?_)
  |go_values|go_skip|go_guarded|(with_reducible refine wg ?_)|go_step|go_upon)
 refine (WAnswer b k p x 0 1 _ ⟨_,_,HK_0.out,HL_0.out⟩ (by decide) (by decide) hn HF.out.tr).mono ?_
 rintro er W1 ⟨hret,⟨y1,bs1,hkk,hll⟩,hke⟩
 have HP_1:=mB hke HP_0
 have HX_1:=mB hke HX_0
 have HK_1:=hU hkk
 have HE_1:=mE hke HE_0
 have HL_1:=hU hll
 clear hkk hll hke
 clear HK_0 HP_0 HX_0 HE_0 HL_0
 obtain ⟨er2,rfl⟩:=hret
 dsimp only
 repeat' (first|go_values|go_skip|go_guarded|(with_reducible refine wg ?_)|go_step|go_upon)
 go_ret
 rw [HB1.out,HA.out]
 exact ⟨rfl,⟨_,_,HK_1.out,HL_1.out⟩,HE_1.out⟩
theorem WAsks20b (b:Nat) (k:Kern) (p:Proc) (x:Call) (w:World) (hk:WorkAt w b k) (hf:Fit k) (hx:CFit x) (hxn:x.n=20) (hxa:¬ 3≤x.a):
 Calls Tryz.prog 130 #[.pointer (some ⟨b,0,none⟩),.agg p.cells,.agg x.cells] w (GivesW b (.bool (asksB k p x)) (asks k p x) w):=by
 have HB1:Hid (asksB k p x=true):=hU (by rw [asksB,hxn];rfl)
 have HA:Hid (asks k p x=answer {k with want:=3 + x.a} p x 0 0):=hU (by rw [asks,hxn];exact if_neg hxa)
 have hw1:IntKind.i64.wrap x.a=x.a:=by have:=hx.a0;rw [IntKind.wrap_i64];omega
 have hw2:IntKind.i64.wrap (3 + x.a)=3 + x.a:=by have:=hx.a0;rw [IntKind.wrap_i64];omega
 obtain ⟨y,bs,hk0,hl⟩:=hk
 have hbl:=hlt hk0
 have hn:k.p.length≤1000000:=Nat.le_trans hf.n (by omega)
 have HF:=hU hf
 have HX:=hU hx
 clear hf hx
 have hxc:x.cells[0]? =some (.int .u32 20):=by rw [← hxn];rfl
 clear hxn
 obtain ⟨W0,hW0,HK_0,HP_0,HX_0,HE_0,HL_0,hz0,hzK,hzP,hzX⟩:=st2 p.cells 167 x.cells 165 hk0 hl
 have kXn:W0.cell? ⟨w.heap.size + 1,0,none⟩=some (.int .u32 20):=(hcell HX_0.out 0).trans hxc
 have kXa:W0.cell? ⟨w.heap.size + 1,1,none⟩=some (.int .u32 x.a):=hcell HX_0.out 1
 have kP0:W0.cell? ⟨w.heap.size,0,none⟩=some (.int .i64 p.pid):=hcell HP_0.out 0
 go_enter Tryz.func130,Tryz.ntmps130
 repeat' (first
  |(rw [hW0];clear hW0)
  |(refine wpList_store1 (t:=3) (v:=.int .i64 (3 + x.a)) (off:=15) (new:=kcells y {k with want:=3 + x.a}) rfl rfl rfl rfl oneInt HK_0.out rfl rfl (show 15 + 1≤17 by decide) rfl ?_;intro W1 hp
    have HL_1:Hid (LayAt W1 y bs {k with want:=3 + x.a}):=hU ((HL_0.out.setWant (3 + x.a)).put HK_0.out noWork hp)
    have HE_1:=pK hp HE_0
    have HK_1:Hid (W1.heap[b]? =some (.cells (kcells y {k with want:=3 + x.a}) 178 (0,0))):=pA hp
    have HP_1:=pT hp HK_0 HP_0
    have HX_1:=pT hp HK_0 HX_0
    clear hp
    clear HK_0 HP_0 HX_0 HE_0 HL_0)
  |(refine wpList_load (t:=167) (v:=.agg p.cells) rfl rfl rfl (run_load_whole aggProc HP_1.out rfl) ?_)
  |(refine wpList_load (t:=165) (v:=.agg x.cells) rfl rfl rfl (run_load_whole aggCall HX_1.out rfl) ?_)
  |go_values|go_skip|go_guarded|(with_reducible refine wg ?_)|go_step|go_upon)
 refine (WAnswer b {k with want:=3 + x.a} p x 0 0 _ ⟨_,_,HK_1.out,HL_1.out⟩ (by decide) (by decide) hn HF.out.tr).mono ?_
 rintro er W2 ⟨hret,⟨y2,bs2,hkk,hll⟩,hke⟩
 have HP_2:=mB hke HP_1
 have HX_2:=mB hke HX_1
 have HK_2:=hU hkk
 have HE_2:=mE hke HE_1
 have HL_2:=hU hll
 clear hkk hll hke
 clear HK_1 HP_1 HX_1 HE_1 HL_1
 obtain ⟨er2,rfl⟩:=hret
 dsimp only
 repeat' (first|go_values|go_skip|go_guarded|(with_reducible refine wg ?_)|go_step|go_upon)
 go_ret
 rw [HB1.out,HA.out]
 exact ⟨rfl,⟨_,_,HK_2.out,HL_2.out⟩,HE_2.out⟩
theorem WAsks18 (b:Nat) (k:Kern) (p:Proc) (x:Call) (w:World) (hk:WorkAt w b k) (hf:Fit k) (hx:CFit x) (hxn:x.n=18) (hw0: -1000000≤k.want) (hw1:k.want≤1000000):
 Calls Tryz.prog 130 #[.pointer (some ⟨b,0,none⟩),.agg p.cells,.agg x.cells] w (GivesW b (.bool (asksB k p x)) (asks k p x) w):=by
 have HB1:Hid (asksB k p x=true):=hU (by rw [asksB,hxn];rfl)
 have HA:Hid (asks k p x=answer {k with want:=k.want + 1} p x 0 0):=hU (by rw [asks,hxn];rfl)
 have hw2:IntKind.i64.wrap (k.want + 1)=k.want + 1:=by rw [IntKind.wrap_i64];omega
 have hw3:IntKind.i64.wrap (k.want + 1 + 1)=k.want + 1 + 1:=by rw [IntKind.wrap_i64];omega
 obtain ⟨y,bs,hk0,hl⟩:=hk
 have hbl:=hlt hk0
 have hn:k.p.length≤1000000:=Nat.le_trans hf.n (by omega)
 have HF:=hU hf
 have HX:=hU hx
 clear hf hx
 have hxc:x.cells[0]? =some (.int .u32 18):=by rw [← hxn];rfl
 clear hxn
 obtain ⟨W0,hW0,HK_0,HP_0,HX_0,HE_0,HL_0,hz0,hzK,hzP,hzX⟩:=st2 p.cells 167 x.cells 165 hk0 hl
 have kXn:W0.cell? ⟨w.heap.size + 1,0,none⟩=some (.int .u32 18):=(hcell HX_0.out 0).trans hxc
 have kXa:W0.cell? ⟨w.heap.size + 1,1,none⟩=some (.int .u32 x.a):=hcell HX_0.out 1
 have kP0:W0.cell? ⟨w.heap.size,0,none⟩=some (.int .i64 p.pid):=hcell HP_0.out 0
 have kW0:W0.cell? ⟨b,15,none⟩=some (.int .i64 k.want):=hcell HK_0.out 15
 go_enter Tryz.func130,Tryz.ntmps130
 repeat' (first
  |(rw [hW0];clear hW0)
  |(refine wpList_store1 (t:=3) (v:=.int .i64 (k.want + 1)) (off:=15) (new:=kcells y {k with want:=k.want + 1}) rfl rfl rfl rfl oneInt HK_0.out rfl rfl (show 15 + 1≤17 by decide) rfl ?_;intro W1 hp
    have HL_1:Hid (LayAt W1 y bs {k with want:=k.want + 1}):=hU ((HL_0.out.setWant (k.want + 1)).put HK_0.out noWork hp)
    have HE_1:=pK hp HE_0
    have HK_1:Hid (W1.heap[b]? =some (.cells (kcells y {k with want:=k.want + 1}) 178 (0,0))):=pA hp
    have HP_1:=pT hp HK_0 HP_0
    have HX_1:=pT hp HK_0 HX_0
    clear hp
    clear HK_0 HP_0 HX_0 HE_0 HL_0)
  |(refine wpList_load (t:=167) (v:=.agg p.cells) rfl rfl rfl (run_load_whole aggProc HP_1.out rfl) ?_)
  |(refine wpList_load (t:=165) (v:=.agg x.cells) rfl rfl rfl (run_load_whole aggCall HX_1.out rfl) ?_)
  |go_values|go_skip|go_guarded|(with_reducible refine wg ?_)|go_step|go_upon)
 refine (WAnswer b {k with want:=k.want + 1} p x 0 0 _ ⟨_,_,HK_1.out,HL_1.out⟩ (by decide) (by decide) hn HF.out.tr).mono ?_
 rintro er W2 ⟨hret,⟨y2,bs2,hkk,hll⟩,hke⟩
 have HP_2:=mB hke HP_1
 have HX_2:=mB hke HX_1
 have HK_2:=hU hkk
 have HE_2:=mE hke HE_1
 have HL_2:=hU hll
 clear hkk hll hke
 clear HK_1 HP_1 HX_1 HE_1 HL_1
 obtain ⟨er2,rfl⟩:=hret
 dsimp only
 repeat' (first|go_values|go_skip|go_guarded|(with_reducible refine wg ?_)|go_step|go_upon)
 go_ret
 rw [HB1.out,HA.out]
 exact ⟨rfl,⟨_,_,HK_2.out,HL_2.out⟩,HE_2.out⟩
theorem WAsks19 (b:Nat) (k:Kern) (p:Proc) (x:Call) (w:World) (hk:WorkAt w b k) (hf:Fit k) (hx:CFit x) (hxn:x.n=19) (hw0: -1000000≤k.want) (hw1:k.want≤1000000):
 Calls Tryz.prog 130 #[.pointer (some ⟨b,0,none⟩),.agg p.cells,.agg x.cells] w (GivesW b (.bool (asksB k p x)) (asks k p x) w):=by
 have HB1:Hid (asksB k p x=true):=hU (by rw [asksB,hxn];rfl)
 have HA:Hid (asks k p x=answer {k with want:=k.want + 1 + 1} p x 0 0):=hU (by rw [asks,hxn];rfl)
 have hw2:IntKind.i64.wrap (k.want + 1)=k.want + 1:=by rw [IntKind.wrap_i64];omega
 have hw3:IntKind.i64.wrap (k.want + 1 + 1)=k.want + 1 + 1:=by rw [IntKind.wrap_i64];omega
 obtain ⟨y,bs,hk0,hl⟩:=hk
 have hbl:=hlt hk0
 have hn:k.p.length≤1000000:=Nat.le_trans hf.n (by omega)
 have HF:=hU hf
 have HX:=hU hx
 clear hf hx
 have hxc:x.cells[0]? =some (.int .u32 19):=by rw [← hxn];rfl
 clear hxn
 obtain ⟨W0,hW0,HK_0,HP_0,HX_0,HE_0,HL_0,hz0,hzK,hzP,hzX⟩:=st2 p.cells 167 x.cells 165 hk0 hl
 have kXn:W0.cell? ⟨w.heap.size + 1,0,none⟩=some (.int .u32 19):=(hcell HX_0.out 0).trans hxc
 have kXa:W0.cell? ⟨w.heap.size + 1,1,none⟩=some (.int .u32 x.a):=hcell HX_0.out 1
 have kP0:W0.cell? ⟨w.heap.size,0,none⟩=some (.int .i64 p.pid):=hcell HP_0.out 0
 have kW0:W0.cell? ⟨b,15,none⟩=some (.int .i64 k.want):=hcell HK_0.out 15
 go_enter Tryz.func130,Tryz.ntmps130
 repeat' (first
  |(rw [hW0];clear hW0)
  |(refine wpList_store1 (t:=3) (v:=.int .i64 (k.want + 1)) (off:=15) (new:=kcells y {k with want:=k.want + 1}) rfl rfl rfl rfl oneInt HK_0.out rfl rfl (show 15 + 1≤17 by decide) rfl ?_;intro W1 hp
    have HL_1:Hid (LayAt W1 y bs {k with want:=k.want + 1}):=hU ((HL_0.out.setWant (k.want + 1)).put HK_0.out noWork hp)
    have HE_1:=pK hp HE_0
    have HK_1:Hid (W1.heap[b]? =some (.cells (kcells y {k with want:=k.want + 1}) 178 (0,0))):=pA hp
    have HP_1:=pT hp HK_0 HP_0
    have HX_1:=pT hp HK_0 HX_0
    clear hp
    clear HK_0 HP_0 HX_0 HE_0 HL_0
    have kW1:W1.cell? ⟨b,15,none⟩=some (.int .i64 (k.want + 1)):=hcell HK_1.out 15)
  |(refine wpList_store1 (t:=3) (v:=.int .i64 (k.want + 1 + 1)) (off:=15) (new:=kcells y {k with want:=k.want + 1 + 1}) rfl rfl rfl rfl oneInt HK_1.out rfl rfl (show 15 + 1≤17 by decide) rfl ?_;intro W2 hp
    have HL_2:Hid (LayAt W2 y bs {k with want:=k.want + 1 + 1}):=hU ((HL_1.out.setWant (k.want + 1 + 1)).put HK_1.out noWork hp)
    have HE_2:=pK hp HE_1
    have HK_2:Hid (W2.heap[b]? =some (.cells (kcells y {k with want:=k.want + 1 + 1}) 178 (0,0))):=pA hp
    have HP_2:=pT hp HK_1 HP_1
    have HX_2:=pT hp HK_1 HX_1
    clear hp
    clear HK_1 HP_1 HX_1 HE_1 HL_1)
  |(refine wpList_load (t:=167) (v:=.agg p.cells) rfl rfl rfl (run_load_whole aggProc HP_2.out rfl) ?_)
  |(refine wpList_load (t:=165) (v:=.agg x.cells) rfl rfl rfl (run_load_whole aggCall HX_2.out rfl) ?_)
  |go_values|go_skip|go_guarded|(with_reducible refine wg ?_)|go_step|go_upon)
 refine (WAnswer b {k with want:=k.want + 1 + 1} p x 0 0 _ ⟨_,_,HK_2.out,HL_2.out⟩ (by decide) (by decide) hn HF.out.tr).mono ?_
 rintro er W3 ⟨hret,⟨y3,bs3,hkk,hll⟩,hke⟩
 have HP_3:=mB hke HP_2
 have HX_3:=mB hke HX_2
 have HK_3:=hU hkk
 have HE_3:=mE hke HE_2
 have HL_3:=hU hll
 clear hkk hll hke
 clear HK_2 HP_2 HX_2 HE_2 HL_2
 obtain ⟨er2,rfl⟩:=hret
 dsimp only
 repeat' (first|go_values|go_skip|go_guarded|(with_reducible refine wg ?_)|go_step|go_upon)
 go_ret
 rw [HB1.out,HA.out]
 exact ⟨rfl,⟨_,_,HK_3.out,HL_3.out⟩,HE_3.out⟩
theorem WAsks5 (b:Nat) (k:Kern) (p:Proc) (x:Call) (w:World) (hk:WorkAt w b k) (hf:Fit k) (hx:CFit x) (hxn:x.n=5):
 Calls Tryz.prog 130 #[.pointer (some ⟨b,0,none⟩),.agg p.cells,.agg x.cells] w (GivesW b (.bool (asksB k p x)) (asks k p x) w):=by
 have HB1:Hid (asksB k p x=killsB k p x):=hU (by rw [asksB,hxn];rfl)
 have HA:Hid (asks k p x=kills k p x):=hU (by rw [asks,hxn];rfl)
 obtain ⟨y,bs,hk0,hl⟩:=hk
 have hbl:=hlt hk0
 have hn:k.p.length≤1000000:=Nat.le_trans hf.n (by omega)
 have HF:=hU hf
 have HX:=hU hx
 clear hf hx
 have hxc:x.cells[0]? =some (.int .u32 5):=by rw [← hxn];rfl
 clear hxn
 obtain ⟨W0,hW0,HK_0,HP_0,HX_0,HE_0,HL_0,hz0,hzK,hzP,hzX⟩:=st2 p.cells 167 x.cells 165 hk0 hl
 have kXn:W0.cell? ⟨w.heap.size + 1,0,none⟩=some (.int .u32 5):=(hcell HX_0.out 0).trans hxc
 have kXa:W0.cell? ⟨w.heap.size + 1,1,none⟩=some (.int .u32 x.a):=hcell HX_0.out 1
 have kP0:W0.cell? ⟨w.heap.size,0,none⟩=some (.int .i64 p.pid):=hcell HP_0.out 0
 go_enter Tryz.func130,Tryz.ntmps130
 repeat' (first
  |(rw [hW0];clear hW0)
  |(refine wpList_load (t:=167) (v:=.agg p.cells) rfl rfl rfl (run_load_whole aggProc HP_0.out rfl) ?_)
  |(refine wpList_load (t:=165) (v:=.agg x.cells) rfl rfl rfl (run_load_whole aggCall HX_0.out rfl) ?_)
  |go_values|go_skip|go_guarded|(with_reducible refine wg ?_)|go_step|go_upon)
 refine (WKills b k p x _ ⟨_,_,HK_0.out,HL_0.out⟩ HF.out HX.out).mono ?_
 rintro er W1 ⟨hret,⟨y1,bs1,hkk,hll⟩,hke⟩
 have HP_1:=mB hke HP_0
 have HX_1:=mB hke HX_0
 have HK_1:=hU hkk
 have HE_1:=mE hke HE_0
 have HL_1:=hU hll
 clear hkk hll hke
 clear HK_0 HP_0 HX_0 HE_0 HL_0
 subst hret
 dsimp only
 repeat' (first|go_values|go_skip|go_guarded|(with_reducible refine wg ?_)|go_step|go_upon)
 go_ret
 rw [HB1.out,HA.out]
 exact ⟨rfl,⟨_,_,HK_1.out,HL_1.out⟩,HE_1.out⟩
end Kn
end Go.Proofs.YtkepkcjjenidgaaGreatDoor
