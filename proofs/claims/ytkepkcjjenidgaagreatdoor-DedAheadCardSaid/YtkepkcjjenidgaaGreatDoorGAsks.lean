/- work.asks: new processes and new images, and all other calls. Conditions: as many as Go can hold; the process is in the table. work.asks, whatever the call. Conditions: as many as Go can hold; the process is in the table. -/
import Derived.Test.YtkepkcjjenidgaaGreatDoorKwAsks
import Derived.Test.YtkepkcjjenidgaaGreatDoorGInw
set_option linter.unusedVariables false
set_option maxRecDepth 100000
set_option maxHeartbeats 8000000
set_option linter.unusedSimpArgs false
namespace Go.Proofs.YtkepkcjjenidgaaGreatDoor
open Go.RowKit KR RegT3
namespace Kn
theorem WAsks3 (b:Nat) (k:Kern) (p:Proc) (x:Call) (w:World) (hk:WorkAt w b k) (hf:Fit k) (hx:CFit x) (hxn:x.n=3):
 Calls Tryz.prog 130 #[.pointer (some ⟨b,0,none⟩),.agg p.cells,.agg x.cells] w (GivesW b (.bool (asksB k p x)) (asks k p x) w):=by
 have HB1:Hid (asksB k p x=true):=hU (by rw [asksB,hxn];rfl)
 have HA:Hid (asks k p x=answer (fresh k (forked p)) p x (freshV k) (freshE k)):=hU (by rw [asks,hxn];rfl)
 obtain ⟨y,bs,hk0,hl⟩:=hk
 have hbl:=hlt hk0
 have hn:k.p.length≤1000000:=Nat.le_trans hf.n (by omega)
 have HF:=hU hf
 have HX:=hU hx
 clear hf hx
 have hxc:x.cells[0]? =some (.int .u32 3):=by rw [← hxn];rfl
 clear hxn
 obtain ⟨W0,hW0,HK_0,HP_0,HX_0,HE_0,HL_0,hz0,hzK,hzP,hzX⟩:=st2 p.cells 167 x.cells 165 hk0 hl
 have kXn:W0.cell? ⟨w.heap.size + 1,0,none⟩=some (.int .u32 3):=(hcell HX_0.out 0).trans hxc
 have kXa:W0.cell? ⟨w.heap.size + 1,1,none⟩=some (.int .u32 x.a):=hcell HX_0.out 1
 have kP0:W0.cell? ⟨w.heap.size,0,none⟩=some (.int .i64 p.pid):=hcell HP_0.out 0
 go_enter Tryz.func130,Tryz.ntmps130
 have HPo:=HP_0
 obtain ⟨abQ,hab,hab1Q⟩:=nb0 HE_0
 have habKQ:=nlt HK_0 hab
 have habPQ:=nlt HP_0 hab
 have habXQ:=nlt HX_0 hab
 have hoffQ:=HL_0.out.p.offNew (Nat.le_of_eq hab)
 obtain ⟨W1,hWn,hba,HQ_1⟩:=nb1 (.cells #[.int .i64 0,.int .i64 0,.int .i64 0,.int .u32 0,.int .u32 0,.int .u32 0,.int .u32 0,.int .u32 0,.int .u32 0,.int .u32 0,.int .u32 0,.int .u32 0,.string ⟨#[]⟩,.int .i64 0,.int .i64 0,.bool false,.int .i64 0,.bool false,.int .i64 0,.bool false,.int .i64 0,.bool false,.int .u32 0,.int .u32 0,.int .u32 0,.int .u32 0] 167) hab
 have HK_1:=nB hba HK_0
 have HP_1:=nB hba HP_0
 have HX_1:=nB hba HX_0
 have HE_1:=nE hba HE_0
 have HL_1:=nL hba HL_0
 clear HK_0 HP_0 HX_0 HE_0 HL_0
 clear hba
 repeat' (first
  |(rw [hWn,hab];clear hWn hab)
  |(rw [hW0];clear hW0)
  |(refine wpList_load (t:=167) (v:=.agg p.cells) rfl rfl rfl (run_load_whole aggProc HPo.out rfl) ?_)
  |(refine wpList_store (t:=167) (v:=.agg p.cells) (off:=0) (new:=p.cells) rfl rfl rfl rfl aggProc.size HQ_1.out rfl (show 0 + 26≤26 by decide) (onesProc p) rfl ?_;intro W2 hp
    have HE_2:=pE hp HE_1
    have HL_2:Hid (LayAt W2 y bs k):=hU (HL_1.out.putProc (HL_1.out.p.putOff hoffQ hp) HQ_1.out hp)
    have HQ_2:=pA hp
    have HK_2:=pT hp HQ_1 HK_1
    have HP_2:=pO hp HP_1
    have HX_2:=pT hp HQ_1 HX_1
    clear hp
    clear HK_1 HP_1 HX_1 HQ_1 HE_1 HL_1
    have kPq:W2.cell? ⟨w.heap.size,0,none⟩=some (.int .i64 p.pid):=hcell HP_2.out 0)
  |(refine wpList_store1 (t:=3) (v:=.int .i64 p.pid) (off:=1) (new:=({p with par:=p.pid}:Proc).cells) rfl rfl rfl rfl oneInt HQ_2.out rfl rfl (show 1 + 1≤26 by decide) rfl ?_;intro W3 hp
    have HE_3:=pE hp HE_2
    have HL_3:Hid (LayAt W3 y bs k):=hU (HL_2.out.putProc (HL_2.out.p.putOff hoffQ hp) HQ_2.out hp)
    have HQ_3:=pA hp
    have HK_3:=pT hp HQ_2 HK_2
    have HP_3:=pO hp HP_2
    have HX_3:=pT hp HQ_2 HX_2
    clear hp
    clear HK_2 HP_2 HX_2 HQ_2 HE_2 HL_2)
  |(refine wpList_store1 (t:=119) (v:=.int .u32 0) (off:=3) (new:=(forked p).cells) rfl rfl rfl rfl oneU32 HQ_3.out rfl rfl (show 3 + 1≤26 by decide) rfl ?_;intro W4 hp
    have HE_4:=pE hp HE_3
    have HL_4:Hid (LayAt W4 y bs k):=hU (HL_3.out.putProc (HL_3.out.p.putOff hoffQ hp) HQ_3.out hp)
    have HQ_4:=pA hp
    have HK_4:=pT hp HQ_3 HK_3
    have HP_4:=pO hp HP_3
    have HX_4:=pT hp HQ_3 HX_3
    clear hp
    clear HK_3 HP_3 HX_3 HQ_3 HE_3 HL_3)
  |(refine wpList_load (t:=167) (v:=.agg (forked p).cells) rfl rfl rfl (run_load_whole aggProc HQ_4.out rfl) ?_)
  |go_values|go_skip|go_guarded|(with_reducible refine wg ?_)|go_step|go_upon)
 clear HPo
 try clear hWn hab
 refine (WFresh b k (forked p) _ ⟨_,_,HK_4.out,HL_4.out⟩ hn HF.out.t HF.out.pl HF.out.pb HF.out.hl HF.out.hs0 HF.out.hs1 HF.out.pid).mono ?_
 rintro er W5 ⟨hret,⟨y5,bs5,hkk,hll⟩,hke⟩
 have HP_5:=mB hke HP_4
 have HX_5:=mB hke HX_4
 have HQ_5:=mB hke HQ_4
 have HK_5:=hU hkk
 have HE_5:=mE hke HE_4
 have HL_5:=hU hll
 clear hkk hll hke
 clear HK_4 HP_4 HX_4 HQ_4 HE_4 HL_4
 subst hret
 dsimp only
 repeat' (first
  |(refine wpList_load (t:=167) (v:=.agg p.cells) rfl rfl rfl (run_load_whole aggProc HP_5.out rfl) ?_)
  |(refine wpList_load (t:=165) (v:=.agg x.cells) rfl rfl rfl (run_load_whole aggCall HX_5.out rfl) ?_)
  |go_values|go_skip|go_guarded|(with_reducible refine wg ?_)|go_step|go_upon)
 refine (WAnswer b (fresh k (forked p)) p x (freshV k) (freshE k) _ ⟨_,_,HK_5.out,HL_5.out⟩ (freshE_range k).1 (freshE_range k).2 (Nat.le_trans (fresh_length k (forked p)) (by have:=HF.out.n;omega)) (by rw [fresh_trace];exact HF.out.tr)).mono ?_
 rintro er W6 ⟨hret,⟨y6,bs6,hkk,hll⟩,hke⟩
 have HP_6:=mB hke HP_5
 have HX_6:=mB hke HX_5
 have HQ_6:=mB hke HQ_5
 have HK_6:=hU hkk
 have HE_6:=mE hke HE_5
 have HL_6:=hU hll
 clear hkk hll hke
 clear HK_5 HP_5 HX_5 HQ_5 HE_5 HL_5
 obtain ⟨er2,rfl⟩:=hret
 dsimp only
 repeat' (first|go_values|go_skip|go_guarded|(with_reducible refine wg ?_)|go_step|go_upon)
 go_ret
 rw [HB1.out,HA.out]
 exact ⟨rfl,⟨_,_,HK_6.out,HL_6.out⟩,HE_6.out⟩
theorem WAsks2a (b:Nat) (k:Kern) (p:Proc) (x:Call) (w:World) (hk:WorkAt w b k) (hf:Fit k) (hx:CFit x) (hxn:x.n=2) (hi:imageE k x.a=0):
 Calls Tryz.prog 130 #[.pointer (some ⟨b,0,none⟩),.agg p.cells,.agg x.cells] w (GivesW b (.bool (asksB k p x)) (asks k p x) w):=by
 have HB1:Hid (asksB k p x=true):=hU (by rw [asksB,hxn];rfl)
 have HA:Hid (asks k p x=answer (fresh k (spawned p (imageM k x.a))) p x (freshV k) (freshE k)):=hU (by rw [asks,hxn];exact if_pos hi)
 obtain ⟨y,bs,hk0,hl⟩:=hk
 have hbl:=hlt hk0
 have hn:k.p.length≤1000000:=Nat.le_trans hf.n (by omega)
 have HF:=hU hf
 have HX:=hU hx
 clear hf hx
 have hxc:x.cells[0]? =some (.int .u32 2):=by rw [← hxn];rfl
 clear hxn
 obtain ⟨W0,hW0,HK_0,HP_0,HX_0,HE_0,HL_0,hz0,hzK,hzP,hzX⟩:=st2 p.cells 167 x.cells 165 hk0 hl
 have kXn:W0.cell? ⟨w.heap.size + 1,0,none⟩=some (.int .u32 2):=(hcell HX_0.out 0).trans hxc
 have kXa:W0.cell? ⟨w.heap.size + 1,1,none⟩=some (.int .u32 x.a):=hcell HX_0.out 1
 have kP0:W0.cell? ⟨w.heap.size,0,none⟩=some (.int .i64 p.pid):=hcell HP_0.out 0
 go_enter Tryz.func130,Tryz.ntmps130
 repeat' (first
  |(rw [hW0];clear hW0)
  |go_values|go_skip|go_guarded|(with_reducible refine wg ?_)|go_step|go_upon)
 refine (WImage b k x.a _ ⟨_,_,HK_0.out,HL_0.out⟩ HX.out.a0 HX.out.a1 HF.out.im).mono ?_
 rintro er W1 ⟨rfl,hb⟩
 have HK_1:=nB hb HK_0
 have HP_1:=nB hb HP_0
 have HX_1:=nB hb HX_0
 have HE_1:=nE hb HE_0
 have HL_1:=nL hb HL_0
 clear HK_0 HP_0 HX_0 HE_0 HL_0
 clear hb
 dsimp only
 rw [hi]
 have kPq:W1.cell? ⟨w.heap.size,0,none⟩=some (.int .i64 p.pid):=hcell HP_1.out 0
 repeat' (first
  |go_values|go_skip|go_guarded|(with_reducible refine wg ?_)|go_step|go_upon)
 refine (WFresh b k (spawned p (imageM k x.a)) _ ⟨_,_,HK_1.out,HL_1.out⟩ hn HF.out.t HF.out.pl HF.out.pb HF.out.hl HF.out.hs0 HF.out.hs1 HF.out.pid).mono ?_
 rintro er W2 ⟨hret,⟨y2,bs2,hkk,hll⟩,hke⟩
 have HP_2:=mB hke HP_1
 have HX_2:=mB hke HX_1
 have HK_2:=hU hkk
 have HE_2:=mE hke HE_1
 have HL_2:=hU hll
 clear hkk hll hke
 clear HK_1 HP_1 HX_1 HE_1 HL_1
 subst hret
 dsimp only
 repeat' (first
  |(refine wpList_load (t:=167) (v:=.agg p.cells) rfl rfl rfl (run_load_whole aggProc HP_2.out rfl) ?_)
  |(refine wpList_load (t:=165) (v:=.agg x.cells) rfl rfl rfl (run_load_whole aggCall HX_2.out rfl) ?_)
  |go_values|go_skip|go_guarded|(with_reducible refine wg ?_)|go_step|go_upon)
 refine (WAnswer b (fresh k (spawned p (imageM k x.a))) p x (freshV k) (freshE k) _ ⟨_,_,HK_2.out,HL_2.out⟩ (freshE_range k).1 (freshE_range k).2 (Nat.le_trans (fresh_length k (spawned p (imageM k x.a))) (by have:=HF.out.n;omega)) (by rw [fresh_trace];exact HF.out.tr)).mono ?_
 rintro er W3 ⟨hret,⟨y3,bs3,hkk,hll⟩,hke⟩
 have HP_3:=mB hke HP_2
 have HX_3:=mB hke HX_2
 have HK_3:=hU hkk
 have HE_3:=mE hke HE_2
 have HL_3:=hU hll
 clear hkk hll hke
 clear HK_2 HP_2 HX_2 HE_2 HL_2
 obtain ⟨er2,rfl⟩:=hret
 dsimp only
 repeat' (first|go_values|go_skip|go_guarded|(with_reducible refine wg ?_)|go_step|go_upon)
 go_ret
 rw [HB1.out,HA.out]
 exact ⟨rfl,⟨_,_,HK_3.out,HL_3.out⟩,HE_3.out⟩
theorem WAsks2b (b:Nat) (k:Kern) (p:Proc) (x:Call) (w:World) (hk:WorkAt w b k) (hf:Fit k) (hx:CFit x) (hxn:x.n=2) (hi:imageE k x.a ≠ 0):
 Calls Tryz.prog 130 #[.pointer (some ⟨b,0,none⟩),.agg p.cells,.agg x.cells] w (GivesW b (.bool (asksB k p x)) (asks k p x) w):=by
 have HB1:Hid (asksB k p x=true):=hU (by rw [asksB,hxn];rfl)
 have HA:Hid (asks k p x=answer k p x 0 (imageE k x.a)):=hU (by rw [asks,hxn];exact if_neg hi)
 obtain ⟨y,bs,hk0,hl⟩:=hk
 have hbl:=hlt hk0
 have hn:k.p.length≤1000000:=Nat.le_trans hf.n (by omega)
 have HF:=hU hf
 have HX:=hU hx
 clear hf hx
 have hxc:x.cells[0]? =some (.int .u32 2):=by rw [← hxn];rfl
 clear hxn
 obtain ⟨W0,hW0,HK_0,HP_0,HX_0,HE_0,HL_0,hz0,hzK,hzP,hzX⟩:=st2 p.cells 167 x.cells 165 hk0 hl
 have kXn:W0.cell? ⟨w.heap.size + 1,0,none⟩=some (.int .u32 2):=(hcell HX_0.out 0).trans hxc
 have kXa:W0.cell? ⟨w.heap.size + 1,1,none⟩=some (.int .u32 x.a):=hcell HX_0.out 1
 have kP0:W0.cell? ⟨w.heap.size,0,none⟩=some (.int .i64 p.pid):=hcell HP_0.out 0
 go_enter Tryz.func130,Tryz.ntmps130
 repeat' (first
  |(rw [hW0];clear hW0)
  |go_values|go_skip|go_guarded|(with_reducible refine wg ?_)|go_step|go_upon)
 refine (WImage b k x.a _ ⟨_,_,HK_0.out,HL_0.out⟩ HX.out.a0 HX.out.a1 HF.out.im).mono ?_
 rintro er W1 ⟨rfl,hb⟩
 have HK_1:=nB hb HK_0
 have HP_1:=nB hb HP_0
 have HX_1:=nB hb HX_0
 have HE_1:=nE hb HE_0
 have HL_1:=nL hb HL_0
 clear HK_0 HP_0 HX_0 HE_0 HL_0
 clear hb
 dsimp only
 have hib:(imageE k x.a==0)=false:=by simp [hi]
 repeat' (first
  |(refine wpList_load (t:=167) (v:=.agg p.cells) rfl rfl rfl (run_load_whole aggProc HP_1.out rfl) ?_)
  |(refine wpList_load (t:=165) (v:=.agg x.cells) rfl rfl rfl (run_load_whole aggCall HX_1.out rfl) ?_)
  |go_values|go_skip|go_guarded|(with_reducible refine wg ?_)|go_step|go_upon)
 refine (WAnswer b k p x 0 (imageE k x.a) _ ⟨_,_,HK_1.out,HL_1.out⟩ (imageE_range k x.a).1 (imageE_range k x.a).2 hn HF.out.tr).mono ?_
 rintro er W2 ⟨hret,⟨y2,bs2,hkk,hll⟩,hke⟩
 have HP_2:=mB hke HP_1
 have HX_2:=mB hke HX_1
 have HK_2:=hU hkk
 have HE_2:=mE hke HE_1
 have HL_2:=hU hll
 clear hkk hll hke
 clear HK_1 HP_1 HX_1 HE_1 HL_1
 obtain ⟨er2,rfl⟩:=hret
 dsimp only
 repeat' (first|go_values|go_skip|go_guarded|(with_reducible refine wg ?_)|go_step|go_upon)
 go_ret
 rw [HB1.out,HA.out]
 exact ⟨rfl,⟨_,_,HK_2.out,HL_2.out⟩,HE_2.out⟩
theorem WAsks17a (b:Nat) (k:Kern) (p:Proc) (x:Call) (w:World) (hk:WorkAt w b k) (hf:Fit k) (hx:CFit x) (hxn:x.n=17) (hi:imageE k x.a=0):
 Calls Tryz.prog 130 #[.pointer (some ⟨b,0,none⟩),.agg p.cells,.agg x.cells] w (GivesW b (.bool (asksB k p x)) (asks k p x) w):=by
 have HB1:Hid (asksB k p x=true):=hU (by rw [asksB,hxn];rfl)
 have HA:Hid (asks k p x=answer k (execd p (imageM k x.a)) x 0 0):=hU (by rw [asks,hxn];show answer k (if imageE k x.a=0 then _ else p) x 0 (imageE k x.a)=_;rw [if_pos hi,hi])
 obtain ⟨y,bs,hk0,hl⟩:=hk
 have hbl:=hlt hk0
 have hn:k.p.length≤1000000:=Nat.le_trans hf.n (by omega)
 have HF:=hU hf
 have HX:=hU hx
 clear hf hx
 have hxc:x.cells[0]? =some (.int .u32 17):=by rw [← hxn];rfl
 clear hxn
 obtain ⟨W0,hW0,HK_0,HP_0,HX_0,HE_0,HL_0,hz0,hzK,hzP,hzX⟩:=st2 p.cells 167 x.cells 165 hk0 hl
 have kXn:W0.cell? ⟨w.heap.size + 1,0,none⟩=some (.int .u32 17):=(hcell HX_0.out 0).trans hxc
 have kXa:W0.cell? ⟨w.heap.size + 1,1,none⟩=some (.int .u32 x.a):=hcell HX_0.out 1
 have kP0:W0.cell? ⟨w.heap.size,0,none⟩=some (.int .i64 p.pid):=hcell HP_0.out 0
 go_enter Tryz.func130,Tryz.ntmps130
 repeat' (first
  |(rw [hW0];clear hW0)
  |go_values|go_skip|go_guarded|(with_reducible refine wg ?_)|go_step|go_upon)
 refine (WImage b k x.a _ ⟨_,_,HK_0.out,HL_0.out⟩ HX.out.a0 HX.out.a1 HF.out.im).mono ?_
 rintro er W1 ⟨rfl,hb⟩
 have HK_1:=nB hb HK_0
 have HP_1:=nB hb HP_0
 have HX_1:=nB hb HX_0
 have HE_1:=nE hb HE_0
 have HL_1:=nL hb HL_0
 clear HK_0 HP_0 HX_0 HE_0 HL_0
 clear hb
 dsimp only
 rw [hi]
 repeat' (first
  |(refine wpList_store1 (t:=9) (v:=.string (imageM k x.a)) (off:=12) (new:=({p with mem:=imageM k x.a}:Proc).cells) rfl rfl rfl rfl oneStr HP_1.out rfl rfl (show 12 + 1≤26 by decide) rfl ?_;intro W2 hp
    have HE_2:=pE hp HE_1
    have HL_2:Hid (LayAt W2 y bs k):=hU (HL_1.out.putProc (HL_1.out.p.putOff (hl.p.offNew (Nat.le_refl _)) hp) HP_1.out hp)
    have HP_2:=pA hp
    have HK_2:=pT hp HP_1 HK_1
    have HX_2:=pT hp HP_1 HX_1
    clear hp
    clear HK_1 HP_1 HX_1 HE_1 HL_1)
  |(refine wpList_store (t:=160) (v:=.agg (cpuCells 0 0 0 0 0 0 0 0 0)) (off:=3) (new:=(execd p (imageM k x.a)).cells) rfl rfl rfl rfl aggCpu.size HP_2.out rfl (show 3 + 9≤26 by decide) (by intro u hu;simp [Value.cells,cpuCells] at hu;subst hu;rfl) rfl ?_;intro W3 hp
    have HE_3:=pE hp HE_2
    have HL_3:Hid (LayAt W3 y bs k):=hU (HL_2.out.putProc (HL_2.out.p.putOff (hl.p.offNew (Nat.le_refl _)) hp) HP_2.out hp)
    have HP_3:=pA hp
    have HK_3:=pT hp HP_2 HK_2
    have HX_3:=pT hp HP_2 HX_2
    clear hp
    clear HK_2 HP_2 HX_2 HE_2 HL_2)
  |(refine wpList_load (t:=167) (v:=.agg (execd p (imageM k x.a)).cells) rfl rfl rfl (run_load_whole aggProc HP_3.out rfl) ?_)
  |(refine wpList_load (t:=165) (v:=.agg x.cells) rfl rfl rfl (run_load_whole aggCall HX_3.out rfl) ?_)
  |go_values|go_skip|go_guarded|(with_reducible refine wg ?_)|go_step|go_upon)
 refine (WAnswer b k (execd p (imageM k x.a)) x 0 0 _ ⟨_,_,HK_3.out,HL_3.out⟩ (by decide) (by decide) hn HF.out.tr).mono ?_
 rintro er W4 ⟨hret,⟨y4,bs4,hkk,hll⟩,hke⟩
 have HP_4:=mB hke HP_3
 have HX_4:=mB hke HX_3
 have HK_4:=hU hkk
 have HE_4:=mE hke HE_3
 have HL_4:=hU hll
 clear hkk hll hke
 clear HK_3 HP_3 HX_3 HE_3 HL_3
 obtain ⟨er2,rfl⟩:=hret
 dsimp only
 repeat' (first|go_values|go_skip|go_guarded|(with_reducible refine wg ?_)|go_step|go_upon)
 go_ret
 rw [HB1.out,HA.out]
 exact ⟨rfl,⟨_,_,HK_4.out,HL_4.out⟩,HE_4.out⟩
theorem WAsks17b (b:Nat) (k:Kern) (p:Proc) (x:Call) (w:World) (hk:WorkAt w b k) (hf:Fit k) (hx:CFit x) (hxn:x.n=17) (hi:imageE k x.a ≠ 0):
 Calls Tryz.prog 130 #[.pointer (some ⟨b,0,none⟩),.agg p.cells,.agg x.cells] w (GivesW b (.bool (asksB k p x)) (asks k p x) w):=by
 have HB1:Hid (asksB k p x=true):=hU (by rw [asksB,hxn];rfl)
 have HA:Hid (asks k p x=answer k p x 0 (imageE k x.a)):=hU (by rw [asks,hxn];show answer k (if imageE k x.a=0 then _ else p) x 0 (imageE k x.a)=_;rw [if_neg hi])
 obtain ⟨y,bs,hk0,hl⟩:=hk
 have hbl:=hlt hk0
 have hn:k.p.length≤1000000:=Nat.le_trans hf.n (by omega)
 have HF:=hU hf
 have HX:=hU hx
 clear hf hx
 have hxc:x.cells[0]? =some (.int .u32 17):=by rw [← hxn];rfl
 clear hxn
 obtain ⟨W0,hW0,HK_0,HP_0,HX_0,HE_0,HL_0,hz0,hzK,hzP,hzX⟩:=st2 p.cells 167 x.cells 165 hk0 hl
 have kXn:W0.cell? ⟨w.heap.size + 1,0,none⟩=some (.int .u32 17):=(hcell HX_0.out 0).trans hxc
 have kXa:W0.cell? ⟨w.heap.size + 1,1,none⟩=some (.int .u32 x.a):=hcell HX_0.out 1
 have kP0:W0.cell? ⟨w.heap.size,0,none⟩=some (.int .i64 p.pid):=hcell HP_0.out 0
 go_enter Tryz.func130,Tryz.ntmps130
 repeat' (first
  |(rw [hW0];clear hW0)
  |go_values|go_skip|go_guarded|(with_reducible refine wg ?_)|go_step|go_upon)
 refine (WImage b k x.a _ ⟨_,_,HK_0.out,HL_0.out⟩ HX.out.a0 HX.out.a1 HF.out.im).mono ?_
 rintro er W1 ⟨rfl,hb⟩
 have HK_1:=nB hb HK_0
 have HP_1:=nB hb HP_0
 have HX_1:=nB hb HX_0
 have HE_1:=nE hb HE_0
 have HL_1:=nL hb HL_0
 clear HK_0 HP_0 HX_0 HE_0 HL_0
 clear hb
 dsimp only
 have hib:(imageE k x.a==0)=false:=by simp [hi]
 repeat' (first
  |(refine wpList_load (t:=167) (v:=.agg p.cells) rfl rfl rfl (run_load_whole aggProc HP_1.out rfl) ?_)
  |(refine wpList_load (t:=165) (v:=.agg x.cells) rfl rfl rfl (run_load_whole aggCall HX_1.out rfl) ?_)
  |go_values|go_skip|go_guarded|(with_reducible refine wg ?_)|go_step|go_upon)
 refine (WAnswer b k p x 0 (imageE k x.a) _ ⟨_,_,HK_1.out,HL_1.out⟩ (imageE_range k x.a).1 (imageE_range k x.a).2 hn HF.out.tr).mono ?_
 rintro er W2 ⟨hret,⟨y2,bs2,hkk,hll⟩,hke⟩
 have HP_2:=mB hke HP_1
 have HX_2:=mB hke HX_1
 have HK_2:=hU hkk
 have HE_2:=mE hke HE_1
 have HL_2:=hU hll
 clear hkk hll hke
 clear HK_1 HP_1 HX_1 HE_1 HL_1
 obtain ⟨er2,rfl⟩:=hret
 dsimp only
 repeat' (first|go_values|go_skip|go_guarded|(with_reducible refine wg ?_)|go_step|go_upon)
 go_ret
 rw [HB1.out,HA.out]
 exact ⟨rfl,⟨_,_,HK_2.out,HL_2.out⟩,HE_2.out⟩
theorem WAsksDa (b:Nat) (k:Kern) (p:Proc) (x:Call) (w:World) (hk:WorkAt w b k) (hf:Fit k) (hx:CFit x) (h1:x.n ≠ 1) (h7:x.n ≠ 7) (h8:x.n ≠ 8) (h20:x.n ≠ 20) (h19:x.n ≠ 19) (h18:x.n ≠ 18) (h5:x.n ≠ 5) (h3:x.n ≠ 3) (h2:x.n ≠ 2) (h17:x.n ≠ 17) (hp:find k.p p.pid=some p) (ht:triesB k p.pid x=true):
 Calls Tryz.prog 130 #[.pointer (some ⟨b,0,none⟩),.agg p.cells,.agg x.cells] w (GivesW b (.bool (asksB k p x)) (asks k p x) w):=by
 have hka:asksB k p x=triesB k p.pid x:=by
  rw [asksB,if_neg h1,if_neg h7,if_neg h8,if_neg h20,if_neg h19,if_neg h18,if_neg h5,if_neg h3,if_neg h2,if_neg h17]
 have hkk:asks k p x=if triesB k p.pid x=true then tries k p.pid x else stops (tries k p.pid x) p 2 x:=by
  rw [asks,if_neg h1,if_neg h7,if_neg h8,if_neg h20,if_neg h19,if_neg h18,if_neg h5,if_neg h3,if_neg h2,if_neg h17]
 have HB1:Hid (asksB k p x=true):=hU (by rw [hka,ht])
 have HA:Hid (asks k p x=tries k p.pid x):=hU (by rw [hkk,if_pos ht])
 have g1:(x.n==1)=false:=by simp [h1]
 have g7:(x.n==7)=false:=by simp [h7]
 have g8:(x.n==8)=false:=by simp [h8]
 have g20:(x.n==20)=false:=by simp [h20]
 have g19:(x.n==19)=false:=by simp [h19]
 have g18:(x.n==18)=false:=by simp [h18]
 have g5:(x.n==5)=false:=by simp [h5]
 have g3:(x.n==3)=false:=by simp [h3]
 have g2:(x.n==2)=false:=by simp [h2]
 have g17:(x.n==17)=false:=by simp [h17]
 clear h1 h7 h8 h20 h19 h18 h5 h3 h2 h17 hka hkk
 have HP:=hU hp
 clear hp
 obtain ⟨ht2,hn2,he0,he1⟩:=tried_keeps k p x
 have HTK:=hU ht2
 have HNK:=hU hn2
 have HE0:=hU he0
 have HE1:=hU he1
 have HT:=hU ht
 clear ht2 hn2 he0 he1 ht
 obtain ⟨y,bs,hk0,hl⟩:=hk
 have hbl:=hlt hk0
 have hn:k.p.length≤1000000:=Nat.le_trans hf.n (by omega)
 have HF:=hU hf
 have HX:=hU hx
 clear hf hx
 obtain ⟨W0,hW0,HK_0,HP_0,HX_0,HE_0,HL_0,hz0,hzK,hzP,hzX⟩:=st2 p.cells 167 x.cells 165 hk0 hl
 have kXn:W0.cell? ⟨w.heap.size + 1,0,none⟩=some (.int .u32 x.n):=hcell HX_0.out 0
 have kXa:W0.cell? ⟨w.heap.size + 1,1,none⟩=some (.int .u32 x.a):=hcell HX_0.out 1
 have kP0:W0.cell? ⟨w.heap.size,0,none⟩=some (.int .i64 p.pid):=hcell HP_0.out 0
 go_enter Tryz.func130,Tryz.ntmps130
 repeat' (first
  |(rw [hW0];clear hW0)
  |(refine wpList_load (t:=165) (v:=.agg x.cells) rfl rfl rfl (run_load_whole aggCall HX_0.out rfl) ?_)
  |go_values|go_skip|go_guarded|(with_reducible refine wg ?_)|go_step|go_upon)
 refine (WTries b k p.pid p x _ ⟨_,_,HK_0.out,HL_0.out⟩ HF.out HX.out HP.out (Nat.le_trans HNK.out (by have:=HF.out.n;omega)) (by rw [HTK.out];exact HF.out.tr) HE0.out HE1.out).mono ?_
 rintro er W1 ⟨hret,⟨y1,bs1,hkk,hll⟩,hke⟩
 have HP_1:=mB hke HP_0
 have HX_1:=mB hke HX_0
 have HK_1:=hU hkk
 have HE_1:=mE hke HE_0
 have HL_1:=hU hll
 clear hkk hll hke
 clear HK_0 HP_0 HX_0 HE_0 HL_0
 subst hret
 dsimp only
 rw [HT.out]
 repeat' (first|go_values|go_skip|go_guarded|(with_reducible refine wg ?_)|go_step|go_upon)
 go_ret
 rw [HB1.out,HA.out]
 exact ⟨rfl,⟨_,_,HK_1.out,HL_1.out⟩,HE_1.out⟩
theorem WAsksDb (b:Nat) (k:Kern) (p:Proc) (x:Call) (w:World) (hk:WorkAt w b k) (hf:Fit k) (hx:CFit x) (h1:x.n ≠ 1) (h7:x.n ≠ 7) (h8:x.n ≠ 8) (h20:x.n ≠ 20) (h19:x.n ≠ 19) (h18:x.n ≠ 18) (h5:x.n ≠ 5) (h3:x.n ≠ 3) (h2:x.n ≠ 2) (h17:x.n ≠ 17) (hp:find k.p p.pid=some p) (ht:triesB k p.pid x=false):
 Calls Tryz.prog 130 #[.pointer (some ⟨b,0,none⟩),.agg p.cells,.agg x.cells] w (GivesW b (.bool (asksB k p x)) (asks k p x) w):=by
 have hka:asksB k p x=triesB k p.pid x:=by
  rw [asksB,if_neg h1,if_neg h7,if_neg h8,if_neg h20,if_neg h19,if_neg h18,if_neg h5,if_neg h3,if_neg h2,if_neg h17]
 have hkk:asks k p x=if triesB k p.pid x=true then tries k p.pid x else stops (tries k p.pid x) p 2 x:=by
  rw [asks,if_neg h1,if_neg h7,if_neg h8,if_neg h20,if_neg h19,if_neg h18,if_neg h5,if_neg h3,if_neg h2,if_neg h17]
 have HB1:Hid (asksB k p x=false):=hU (by rw [hka,ht])
 have HA:Hid (asks k p x=stops k p 2 x):=hU (by rw [hkk,if_neg (by rw [ht];decide),triesB_no ht])
 have g1:(x.n==1)=false:=by simp [h1]
 have g7:(x.n==7)=false:=by simp [h7]
 have g8:(x.n==8)=false:=by simp [h8]
 have g20:(x.n==20)=false:=by simp [h20]
 have g19:(x.n==19)=false:=by simp [h19]
 have g18:(x.n==18)=false:=by simp [h18]
 have g5:(x.n==5)=false:=by simp [h5]
 have g3:(x.n==3)=false:=by simp [h3]
 have g2:(x.n==2)=false:=by simp [h2]
 have g17:(x.n==17)=false:=by simp [h17]
 clear h1 h7 h8 h20 h19 h18 h5 h3 h2 h17 hka hkk
 have HP:=hU hp
 clear hp
 obtain ⟨ht2,hn2,he0,he1⟩:=tried_keeps k p x
 have HTK:=hU ht2
 have HNK:=hU hn2
 have HE0:=hU he0
 have HE1:=hU he1
 have HT:=hU ht
 clear ht2 hn2 he0 he1 ht
 obtain ⟨y,bs,hk0,hl⟩:=hk
 have hbl:=hlt hk0
 have hn:k.p.length≤1000000:=Nat.le_trans hf.n (by omega)
 have HF:=hU hf
 have HX:=hU hx
 clear hf hx
 obtain ⟨W0,hW0,HK_0,HP_0,HX_0,HE_0,HL_0,hz0,hzK,hzP,hzX⟩:=st2 p.cells 167 x.cells 165 hk0 hl
 have kXn:W0.cell? ⟨w.heap.size + 1,0,none⟩=some (.int .u32 x.n):=hcell HX_0.out 0
 have kXa:W0.cell? ⟨w.heap.size + 1,1,none⟩=some (.int .u32 x.a):=hcell HX_0.out 1
 have kP0:W0.cell? ⟨w.heap.size,0,none⟩=some (.int .i64 p.pid):=hcell HP_0.out 0
 go_enter Tryz.func130,Tryz.ntmps130
 repeat' (first
  |(rw [hW0];clear hW0)
  |(refine wpList_load (t:=165) (v:=.agg x.cells) rfl rfl rfl (run_load_whole aggCall HX_0.out rfl) ?_)
  |go_values|go_skip|go_guarded|(with_reducible refine wg ?_)|go_step|go_upon)
 refine (WTries b k p.pid p x _ ⟨_,_,HK_0.out,HL_0.out⟩ HF.out HX.out HP.out (Nat.le_trans HNK.out (by have:=HF.out.n;omega)) (by rw [HTK.out];exact HF.out.tr) HE0.out HE1.out).mono ?_
 rintro er W1 ⟨hret,⟨y1,bs1,hkk,hll⟩,hke⟩
 have HP_1:=mB hke HP_0
 have HX_1:=mB hke HX_0
 have HK_1:=hU hkk
 have HE_1:=mE hke HE_0
 have HL_1:=hU hll
 clear hkk hll hke
 clear HK_0 HP_0 HX_0 HE_0 HL_0
 subst hret
 dsimp only
 rw [HT.out]
 rw [triesB_no HT.out] at HK_1 HL_1
 repeat' (first
  |(refine wpList_load (t:=167) (v:=.agg p.cells) rfl rfl rfl (run_load_whole aggProc HP_1.out rfl) ?_)
  |(refine wpList_load (t:=165) (v:=.agg x.cells) rfl rfl rfl (run_load_whole aggCall HX_1.out rfl) ?_)
  |go_values|go_skip|go_guarded|(with_reducible refine wg ?_)|go_step|go_upon)
 refine (WStops b k p 2 x _ ⟨_,_,HK_1.out,HL_1.out⟩ hn HF.out.t).mono ?_
 rintro er W2 ⟨hret,⟨y2,bs2,hkk,hll⟩,hke⟩
 have HP_2:=mB hke HP_1
 have HX_2:=mB hke HX_1
 have HK_2:=hU hkk
 have HE_2:=mE hke HE_1
 have HL_2:=hU hll
 clear hkk hll hke
 clear HK_1 HP_1 HX_1 HE_1 HL_1
 obtain ⟨er2,rfl⟩:=hret
 dsimp only
 repeat' (first|go_values|go_skip|go_guarded|(with_reducible refine wg ?_)|go_step|go_upon)
 go_ret
 rw [HB1.out,HA.out]
 exact ⟨rfl,⟨_,_,HK_2.out,HL_2.out⟩,HE_2.out⟩
theorem WAsks (b:Nat) (k:Kern) (p:Proc) (x:Call) (w:World) (hk:WorkAt w b k) (hf:Fit k) (hx:CFit x) (hp:find k.p p.pid=some p) (hw0: -1000000≤k.want) (hw1:k.want≤1000000):
 Calls Tryz.prog 130 #[.pointer (some ⟨b,0,none⟩),.agg p.cells,.agg x.cells] w (GivesW b (.bool (asksB k p x)) (asks k p x) w):=by
 by_cases h1:x.n=1
 · exact WAsks1 b k p x w hk hf hx h1
 by_cases h7:x.n=7
 · exact WAsks7 b k p x w hk hf hx h7
 by_cases h8:x.n=8
 · by_cases ha:0<x.a
   · exact WAsks8a b k p x w hk hf hx h8 ha
   · exact WAsks8b b k p x w hk hf hx h8 ha
 by_cases h20:x.n=20
 · by_cases ha:3≤x.a
   · exact WAsks20a b k p x w hk hf hx h20 ha
   · exact WAsks20b b k p x w hk hf hx h20 ha
 by_cases h19:x.n=19
 · exact WAsks19 b k p x w hk hf hx h19 hw0 hw1
 by_cases h18:x.n=18
 · exact WAsks18 b k p x w hk hf hx h18 hw0 hw1
 by_cases h5:x.n=5
 · exact WAsks5 b k p x w hk hf hx h5
 by_cases h3:x.n=3
 · exact WAsks3 b k p x w hk hf hx h3
 by_cases h2:x.n=2
 · by_cases hi:imageE k x.a=0
   · exact WAsks2a b k p x w hk hf hx h2 hi
   · exact WAsks2b b k p x w hk hf hx h2 hi
 by_cases h17:x.n=17
 · by_cases hi:imageE k x.a=0
   · exact WAsks17a b k p x w hk hf hx h17 hi
   · exact WAsks17b b k p x w hk hf hx h17 hi
 cases ht:triesB k p.pid x with
 |true=> exact WAsksDa b k p x w hk hf hx h1 h7 h8 h20 h19 h18 h5 h3 h2 h17 hp ht
 |false=> exact WAsksDb b k p x w hk hf hx h1 h7 h8 h20 h19 h18 h5 h3 h2 h17 hp ht
end Kn
end Go.Proofs.YtkepkcjjenidgaaGreatDoor
