/- kern.closes. Conditions: as many as Go can hold; a word's number. -/
import Derived.Test.YtkepkcjjenidgaaGreatDoorKwFresh
import Derived.Test.YtkepkcjjenidgaaGreatDoorGEnd
import Derived.Test.YtkepkcjjenidgaaGreatDoorGWork
import Derived.Test.YtkepkcjjenidgaaGreatDoorGTab
set_option linter.unusedVariables false
set_option maxRecDepth 100000
set_option maxHeartbeats 8000000
set_option linter.unusedSimpArgs false
namespace Go.Proofs.YtkepkcjjenidgaaGreatDoor
open Go.RowKit KR RegT3
namespace Kn
theorem WCloses (b:Nat) (k:Kern) (p:Proc) (x:Call) (w:World) (hk:WorkAt w b k) (hn:k.p.length≤1000000) (hpl:k.pipes.length≤1000000) (hpb:PB 1000000 k.pipes) (ha0:0≤x.a) (ha1:x.a<4294967296):
 Calls Tryz.prog 191 #[.pointer (some ⟨b,0,none⟩),.agg p.cells,.agg x.cells] w (GivesW b (.tuple #[.int .u32 (closes k p x).v,.int .i64 (closes k p x).e]) (closes k p x).k w):=by
 obtain ⟨y,bs,hk0,hl⟩:=hk
 have hbl:=hlt hk0
 obtain ⟨W0,hW0,HK_0,HP_0,HX_0,HE_0,HL_0,hz0,hzK,hzP,hzX⟩:=st2 p.cells 167 x.cells 165 hk0 hl
 have HEN:=fun W h=> WEnd b k p x.a W h ha0 ha1
 cases he:isEnd k p x.a with
 |false=>
  have HW:=hU (show closes k p x=⟨k,0,1⟩ by rw [closes,if_pos he])
  simp only [endV,he,Bool.false_eq_true,if_false] at HEN
  clear he
  have kX:W0.cell? ⟨w.heap.size + 1,1,none⟩=some (.int .u32 x.a):=hcell HX_0.out 1
  go_enter Tryz.func191,Tryz.ntmps191
  repeat' (first
   |(rw [hW0];clear hW0)
   |(refine wpList_load (t:=167) (v:=.agg p.cells) rfl rfl rfl (run_load_whole aggProc HP_0.out rfl) ?_)
   |go_values|go_skip|go_guarded|(with_reducible refine wg ?_)|go_step|go_upon)
  refine (HEN _ ⟨_,_,HK_0.out,HL_0.out⟩).mono ?_
  rintro er W1 ⟨rfl,hb⟩
  have HK_1:=nB hb HK_0
  have HP_1:=nB hb HP_0
  have HX_1:=nB hb HX_0
  have HE_1:=nE hb HE_0
  have HL_1:=nL hb HL_0
  clear HK_0 HP_0 HX_0 HE_0 HL_0
  clear hb kX
  dsimp only
  obtain ⟨abN,hab,hab1N⟩:=nb0 HE_1
  have habKN:=nlt HK_1 hab
  have habPN:=nlt HP_1 hab
  have habXN:=nlt HX_1 hab
  obtain ⟨W2,hWn,hba,HN_2⟩:=nb1 (.cells #[.int .i64 0,.bool false] 162) hab
  have HK_2:=nB hba HK_1
  have HP_2:=nB hba HP_1
  have HX_2:=nB hba HX_1
  have HE_2:=nE hba HE_1
  have HL_2:=nL hba HL_1
  clear HK_1 HP_1 HX_1 HE_1 HL_1
  clear hba
  repeat' (first
   |(rw [hWn,hab];clear hWn hab)
   |(refine wpList_store (t:=162) (v:=.agg #[.int .i64 0,.bool false]) (off:=0) (new:=#[.int .i64 0,.bool false]) rfl rfl rfl rfl aggEnd.size HN_2.out rfl (show 0 + 2≤2 by decide) (by intro u hu;simp [Value.cells] at hu;rcases hu with rfl|rfl <;> rfl) rfl ?_;intro W3 hp
     have HE_3:=pE hp HE_2
     have HL_3:Hid (LayAt W3 y bs k):=hU (hl.kept hk0 noWork HE_3.out)
     have HN_3:=pA hp
     have HK_3:=pT hp HN_2 HK_2
     have HP_3:=pT hp HN_2 HP_2
     have HX_3:=pT hp HN_2 HX_2
     clear hp
     clear HK_2 HP_2 HX_2 HN_2 HE_2 HL_2)
   |go_values|go_skip|go_guarded|(with_reducible refine wg ?_)|go_step|go_upon)
  go_ret2
  rw [HW.out]
  exact ⟨rfl,⟨_,_,HK_3.out,HL_3.out⟩,HE_3.out⟩
 |true=>
  have ha4:x.a<4:=by
   refine Decidable.byContradiction fun h=> ?_
   rw [isEnd_no (.inl (by omega))] at he
   cases he
  simp only [endV,he,if_true] at HEN
  have hcase:x.a=0∨x.a=1∨x.a=2∨x.a=3:=by omega
  rcases hcase with hc|hc|hc|hc
  · have hcx:x.cells[1]? =some (.int .u32 0):=by rw [← hc];rfl
    have HW:=hU (show closes k p x=⟨{k with pipes:=(pcount k.pipes p.d0 p.e0 (-1)),p:=put k.p (setFd p 0 0 false)},0,0⟩ by rw [closes,if_neg (by rw [he];simp),hc];rfl)
    have HEN2:∀ W,WorkAt W b k→Calls Tryz.prog 231 #[.pointer (some ⟨b,0,none⟩),.agg p.cells,.int .u32 0] W (Gives (.tuple #[.agg #[.int .i64 p.d0,.bool p.e0],.bool true]) W):=fun W h=> by have:=HEN W h;rw [hc] at this;exact this
    clear HEN he hc ha0 ha1 ha4
    have kX:W0.cell? ⟨w.heap.size + 1,1,none⟩=some (.int .u32 0):=(hcell HX_0.out 1).trans hcx
    go_enter Tryz.func191,Tryz.ntmps191
    repeat' (first
     |(rw [hW0];clear hW0)
     |(refine wpList_load (t:=167) (v:=.agg p.cells) rfl rfl rfl (run_load_whole aggProc HP_0.out rfl) ?_)
     |go_values|go_skip|go_guarded|(with_reducible refine wg ?_)|go_step|go_upon)
    refine (HEN2 _ ⟨_,_,HK_0.out,HL_0.out⟩).mono ?_
    rintro er W1 ⟨rfl,hb⟩
    have HK_1:=nB hb HK_0
    have HP_1:=nB hb HP_0
    have HX_1:=nB hb HX_0
    have HE_1:=nE hb HE_0
    have HL_1:=nL hb HL_0
    clear HK_0 HP_0 HX_0 HE_0 HL_0
    clear hb kX HEN2
    dsimp only
    obtain ⟨abN,hab,hab1N⟩:=nb0 HE_1
    have habKN:=nlt HK_1 hab
    have habPN:=nlt HP_1 hab
    have habXN:=nlt HX_1 hab
    obtain ⟨W2,hWn,hba,HN_2⟩:=nb1 (.cells #[.int .i64 p.d0,.bool p.e0] 162) hab
    have HK_2:=nB hba HK_1
    have HP_2:=nB hba HP_1
    have HX_2:=nB hba HX_1
    have HE_2:=nE hba HE_1
    have HL_2:=nL hba HL_1
    clear HK_1 HP_1 HX_1 HE_1 HL_1
    clear hba
    have kX:W2.cell? ⟨w.heap.size + 1,1,none⟩=some (.int .u32 0):=(hcell HX_2.out 1).trans hcx
    repeat' (first
     |(rw [hWn,hab];clear hWn hab)
     |(refine wpList_store (t:=162) (v:=.agg #[.int .i64 0,.bool false]) (off:=14) (new:=(setFd p 0 0 false).cells) rfl rfl rfl rfl aggEnd.size HP_2.out rfl (show 14 + 2≤26 by decide) (by intro u hu;simp [Value.cells] at hu;rcases hu with rfl|rfl <;> rfl) rfl ?_;intro W3 hp
       have HE_3:=pE hp HE_2
       have HL_3:Hid (LayAt W3 y bs k):=hU (hl.kept hk0 noWork HE_3.out)
       have HP_3:=pA hp
       have HK_3:=pT hp HP_2 HK_2
       have HX_3:=pT hp HP_2 HX_2
       have HN_3:=pT hp HP_2 HN_2
       clear hp
       clear HK_2 HP_2 HX_2 HN_2 HE_2 HL_2)
     |go_values|go_skip|go_guarded|(with_reducible refine wg ?_)|go_step|go_upon)
    try rw [hab]
    clear hab
    try clear hWn hab
    refine wp_region_noPanic ?_
    refine go0 (S:=fun W=> (W.cell? ⟨b,4,none⟩=some y.pi)∧(W.cell? ⟨abN,0,none⟩=some (.int .i64 p.d0))∧(W.cell? ⟨abN,1,none⟩=some (.bool p.e0))∧(W.cell? ⟨b,0,none⟩=some y.p)∧(W.heap[w.heap.size]? =some (.cells (setFd p 0 0 false).cells 167 (0,0)))) [19,23] (⟨hcell HK_3.out 4,hcell HN_3.out 0,hcell HN_3.out 1,hcell HK_3.out 0,HP_3.out⟩) fun hS=> ?_
    obtain ⟨W4,hWd⟩:=exW W3.drew
    have HK_4:=dB hWd HK_3
    have HP_4:=dB hWd HP_3
    have HX_4:=dB hWd HX_3
    have HN_4:=dB hWd HN_3
    have HE_4:=dE hWd HE_3
    have HL_4:=dL hWd HL_3
    rw [hWd] at hS ⊢
    clear hWd
    clear HK_3 HP_3 HX_3 HN_3 HE_3 HL_3
    refine tp 0 ?_;try simp only [acts]
    refine tp 1 ?_;try simp only [acts]
    refine tp 2 ?_;try simp only [acts]
    refine tp 3 ?_;try simp only [acts]
    refine tp 4 ?_;try simp only [acts]
    refine tp 5 ?_;try simp only [acts]
    refine tl 6 ?_;try simp only [acts]
    refine tl 7 ?_;try simp only [acts]
    refine tp 9 ?_;try simp only [acts]
    refine tp 10 ?_;try simp only [acts]
    refine tp 11 ?_;try simp only [acts]
    refine tp 12 ?_;try simp only [acts]
    refine tl 13 ?_;try simp only [acts]
    refine tv 14 (.agg (setFd p 0 0 false).cells) (fun W hSW=> run_val_load rfl rfl (run_load_whole aggProc hSW.2.2.2.2 rfl)) ?_
    (try simp only [acts])
    refine ro 8 fun K hK=> ?_
    refine want rfl ?_
    go_simp
    refine (PCount y.pi k.pipes p.d0 p.e0 (-1) _ HL_4.out.pi (by omega) (by decide) (hpb.big (by decide))).mono ?_
    rintro er W5 ⟨v2,rfl,hpi,hb⟩
    have HK_5:=nB hb HK_4
    have HP_5:=nB hb HP_4
    have HX_5:=nB hb HX_4
    have HN_5:=nB hb HN_4
    have HE_5:=nE hb HE_4
    have HL_5:=nL hb HL_4
    clear HK_4 HP_4 HX_4 HN_4 HE_4 HL_4
    clear hb
    have SPi_5:=hU hpi
    dsimp only
    try clear hS
    refine nx hK (⟨hcell HK_5.out 4,hcell HN_5.out 0,hcell HN_5.out 1,hcell HK_5.out 0,HP_5.out⟩) fun hS=> ?_
    clear hK K
    (try simp only [acts])
    refine ro 15 fun K hK=> ?_
    refine want rfl ?_
    go_simp
    refine (TPut y.p k.p (setFd p 0 0 false) _ HL_5.out.p (by omega)).mono ?_
    rintro er W6 ⟨v6,rfl,ho,hb⟩
    have HK_6:=nB hb HK_5
    have HP_6:=nB hb HP_5
    have HX_6:=nB hb HX_5
    have HN_6:=nB hb HN_5
    have HE_6:=nE hb HE_5
    have HL_6:=nL hb HL_5
    have SPi_6:=hU (SPi_5.out.below hb)
    clear HK_5 HP_5 HX_5 HN_5 HE_5 HL_5 SPi_5
    clear hb
    have SP_6:=hU (KR.Own.sl szProc ho)
    dsimp only
    try clear hS
    refine nx hK (⟨hcell HK_6.out 4,hcell HN_6.out 0,hcell HN_6.out 1,hcell HK_6.out 0,HP_6.out⟩) fun hS=> ?_
    clear hK K
    (try simp only [acts])
    refine tp 16 ?_;try simp only [acts]
    refine tp 17 ?_;try simp only [acts]
    refine tp 18 ?_;try simp only [acts]
    refine ro 19 fun K hK=> ?_
    refine want rfl ?_
    refine wp_store1 (v:=v2) (off:=4) (new:=kcells {y with pi:=v2} {k with pipes:=(pcount k.pipes p.d0 p.e0 (-1))}) rfl rfl rfl oneSPipe HK_6.out SPi_6.out.vcells SPi_6.out.vone (show 4 + 1≤17 by decide) rfl ?_
    intro W7 hp
    have HL_7:Hid (LayAt W7 {y with pi:=v2} bs {k with pipes:=(pcount k.pipes p.d0 p.e0 (-1))}):=hU ((HL_6.out.setPi SPi_6.out).put HK_6.out noWork hp)
    have HE_7:=pK hp HE_6
    have HK_7:Hid (W7.heap[b]? =some (.cells (kcells {y with pi:=v2} {k with pipes:=(pcount k.pipes p.d0 p.e0 (-1))}) 178 (0,0))):=pA hp
    have HP_7:=pT hp HK_6 HP_6
    have HX_7:=pT hp HK_6 HX_6
    have HN_7:=pT hp HK_6 HN_6
    have SPi_7:=hU (SPi_6.out.put HK_6.out hp (by decide))
    have SP_7:=hU (SP_6.out.put HK_6.out hp (by decide))
    clear hp
    clear HK_6 HP_6 HX_6 HN_6 HE_6 HL_6 SPi_6 SP_6
    refine nt hK ?_
    clear hK K
    try clear hS
    (try simp only [acts])
    refine tp 20 ?_;try simp only [acts]
    refine tp 21 ?_;try simp only [acts]
    refine tp 22 ?_;try simp only [acts]
    refine ro 23 fun K hK=> ?_
    refine want rfl ?_
    refine wp_store1 (v:=v6) (off:=0) (new:=kcells {y with pi:=v2,p:=v6} {k with pipes:=(pcount k.pipes p.d0 p.e0 (-1)),p:=put k.p (setFd p 0 0 false)}) rfl rfl rfl oneSProc HK_7.out SP_7.out.vcells SP_7.out.vone (show 0 + 1≤17 by decide) rfl ?_
    intro W8 hp
    have HL_8:Hid (LayAt W8 {y with pi:=v2,p:=v6} bs {k with pipes:=(pcount k.pipes p.d0 p.e0 (-1)),p:=put k.p (setFd p 0 0 false)}):=hU ((HL_7.out.setP SP_7.out).put HK_7.out noWork hp)
    have HE_8:=pK hp HE_7
    have HK_8:Hid (W8.heap[b]? =some (.cells (kcells {y with pi:=v2,p:=v6} {k with pipes:=(pcount k.pipes p.d0 p.e0 (-1)),p:=put k.p (setFd p 0 0 false)}) 178 (0,0))):=pA hp
    have HP_8:=pT hp HK_7 HP_7
    have HX_8:=pT hp HK_7 HX_7
    have HN_8:=pT hp HK_7 HN_7
    have SPi_8:=hU (SPi_7.out.put HK_7.out hp (by decide))
    have SP_8:=hU (SP_7.out.put HK_7.out hp (by decide))
    clear hp
    clear HK_7 HP_7 HX_7 HN_7 HE_7 HL_7 SPi_7 SP_7
    refine nt hK ?_
    clear hK K
    try clear hS
    (try simp only [acts])
    refine doneL (by kernel_rfl) (NoPanic.normal ?_) _
    try clear hS
    repeat' (first|go_values|go_skip|go_guarded|(with_reducible refine wg ?_)|go_step|go_upon)
    go_ret2
    rw [HW.out]
    exact ⟨rfl,⟨_,_,HK_8.out,HL_8.out⟩,HE_8.out⟩
  · have hcx:x.cells[1]? =some (.int .u32 1):=by rw [← hc];rfl
    have HW:=hU (show closes k p x=⟨{k with pipes:=(pcount k.pipes p.d1 p.e1 (-1)),p:=put k.p (setFd p 1 0 false)},0,0⟩ by rw [closes,if_neg (by rw [he];simp),hc];rfl)
    have HEN2:∀ W,WorkAt W b k→Calls Tryz.prog 231 #[.pointer (some ⟨b,0,none⟩),.agg p.cells,.int .u32 1] W (Gives (.tuple #[.agg #[.int .i64 p.d1,.bool p.e1],.bool true]) W):=fun W h=> by have:=HEN W h;rw [hc] at this;exact this
    clear HEN he hc ha0 ha1 ha4
    have kX:W0.cell? ⟨w.heap.size + 1,1,none⟩=some (.int .u32 1):=(hcell HX_0.out 1).trans hcx
    go_enter Tryz.func191,Tryz.ntmps191
    repeat' (first
     |(rw [hW0];clear hW0)
     |(refine wpList_load (t:=167) (v:=.agg p.cells) rfl rfl rfl (run_load_whole aggProc HP_0.out rfl) ?_)
     |go_values|go_skip|go_guarded|(with_reducible refine wg ?_)|go_step|go_upon)
    refine (HEN2 _ ⟨_,_,HK_0.out,HL_0.out⟩).mono ?_
    rintro er W1 ⟨rfl,hb⟩
    have HK_1:=nB hb HK_0
    have HP_1:=nB hb HP_0
    have HX_1:=nB hb HX_0
    have HE_1:=nE hb HE_0
    have HL_1:=nL hb HL_0
    clear HK_0 HP_0 HX_0 HE_0 HL_0
    clear hb kX HEN2
    dsimp only
    obtain ⟨abN,hab,hab1N⟩:=nb0 HE_1
    have habKN:=nlt HK_1 hab
    have habPN:=nlt HP_1 hab
    have habXN:=nlt HX_1 hab
    obtain ⟨W2,hWn,hba,HN_2⟩:=nb1 (.cells #[.int .i64 p.d1,.bool p.e1] 162) hab
    have HK_2:=nB hba HK_1
    have HP_2:=nB hba HP_1
    have HX_2:=nB hba HX_1
    have HE_2:=nE hba HE_1
    have HL_2:=nL hba HL_1
    clear HK_1 HP_1 HX_1 HE_1 HL_1
    clear hba
    have kX:W2.cell? ⟨w.heap.size + 1,1,none⟩=some (.int .u32 1):=(hcell HX_2.out 1).trans hcx
    repeat' (first
     |(rw [hWn,hab];clear hWn hab)
     |(refine wpList_store (t:=162) (v:=.agg #[.int .i64 0,.bool false]) (off:=16) (new:=(setFd p 1 0 false).cells) rfl rfl rfl rfl aggEnd.size HP_2.out rfl (show 16 + 2≤26 by decide) (by intro u hu;simp [Value.cells] at hu;rcases hu with rfl|rfl <;> rfl) rfl ?_;intro W3 hp
       have HE_3:=pE hp HE_2
       have HL_3:Hid (LayAt W3 y bs k):=hU (hl.kept hk0 noWork HE_3.out)
       have HP_3:=pA hp
       have HK_3:=pT hp HP_2 HK_2
       have HX_3:=pT hp HP_2 HX_2
       have HN_3:=pT hp HP_2 HN_2
       clear hp
       clear HK_2 HP_2 HX_2 HN_2 HE_2 HL_2)
     |go_values|go_skip|go_guarded|(with_reducible refine wg ?_)|go_step|go_upon)
    try rw [hab]
    clear hab
    try clear hWn hab
    refine wp_region_noPanic ?_
    refine go0 (S:=fun W=> (W.cell? ⟨b,4,none⟩=some y.pi)∧(W.cell? ⟨abN,0,none⟩=some (.int .i64 p.d1))∧(W.cell? ⟨abN,1,none⟩=some (.bool p.e1))∧(W.cell? ⟨b,0,none⟩=some y.p)∧(W.heap[w.heap.size]? =some (.cells (setFd p 1 0 false).cells 167 (0,0)))) [19,23] (⟨hcell HK_3.out 4,hcell HN_3.out 0,hcell HN_3.out 1,hcell HK_3.out 0,HP_3.out⟩) fun hS=> ?_
    obtain ⟨W4,hWd⟩:=exW W3.drew
    have HK_4:=dB hWd HK_3
    have HP_4:=dB hWd HP_3
    have HX_4:=dB hWd HX_3
    have HN_4:=dB hWd HN_3
    have HE_4:=dE hWd HE_3
    have HL_4:=dL hWd HL_3
    rw [hWd] at hS ⊢
    clear hWd
    clear HK_3 HP_3 HX_3 HN_3 HE_3 HL_3
    refine tp 0 ?_;try simp only [acts]
    refine tp 1 ?_;try simp only [acts]
    refine tp 2 ?_;try simp only [acts]
    refine tp 3 ?_;try simp only [acts]
    refine tp 4 ?_;try simp only [acts]
    refine tp 5 ?_;try simp only [acts]
    refine tl 6 ?_;try simp only [acts]
    refine tl 7 ?_;try simp only [acts]
    refine tp 9 ?_;try simp only [acts]
    refine tp 10 ?_;try simp only [acts]
    refine tp 11 ?_;try simp only [acts]
    refine tp 12 ?_;try simp only [acts]
    refine tl 13 ?_;try simp only [acts]
    refine tv 14 (.agg (setFd p 1 0 false).cells) (fun W hSW=> run_val_load rfl rfl (run_load_whole aggProc hSW.2.2.2.2 rfl)) ?_
    (try simp only [acts])
    refine ro 8 fun K hK=> ?_
    refine want rfl ?_
    go_simp
    refine (PCount y.pi k.pipes p.d1 p.e1 (-1) _ HL_4.out.pi (by omega) (by decide) (hpb.big (by decide))).mono ?_
    rintro er W5 ⟨v2,rfl,hpi,hb⟩
    have HK_5:=nB hb HK_4
    have HP_5:=nB hb HP_4
    have HX_5:=nB hb HX_4
    have HN_5:=nB hb HN_4
    have HE_5:=nE hb HE_4
    have HL_5:=nL hb HL_4
    clear HK_4 HP_4 HX_4 HN_4 HE_4 HL_4
    clear hb
    have SPi_5:=hU hpi
    dsimp only
    try clear hS
    refine nx hK (⟨hcell HK_5.out 4,hcell HN_5.out 0,hcell HN_5.out 1,hcell HK_5.out 0,HP_5.out⟩) fun hS=> ?_
    clear hK K
    (try simp only [acts])
    refine ro 15 fun K hK=> ?_
    refine want rfl ?_
    go_simp
    refine (TPut y.p k.p (setFd p 1 0 false) _ HL_5.out.p (by omega)).mono ?_
    rintro er W6 ⟨v6,rfl,ho,hb⟩
    have HK_6:=nB hb HK_5
    have HP_6:=nB hb HP_5
    have HX_6:=nB hb HX_5
    have HN_6:=nB hb HN_5
    have HE_6:=nE hb HE_5
    have HL_6:=nL hb HL_5
    have SPi_6:=hU (SPi_5.out.below hb)
    clear HK_5 HP_5 HX_5 HN_5 HE_5 HL_5 SPi_5
    clear hb
    have SP_6:=hU (KR.Own.sl szProc ho)
    dsimp only
    try clear hS
    refine nx hK (⟨hcell HK_6.out 4,hcell HN_6.out 0,hcell HN_6.out 1,hcell HK_6.out 0,HP_6.out⟩) fun hS=> ?_
    clear hK K
    (try simp only [acts])
    refine tp 16 ?_;try simp only [acts]
    refine tp 17 ?_;try simp only [acts]
    refine tp 18 ?_;try simp only [acts]
    refine ro 19 fun K hK=> ?_
    refine want rfl ?_
    refine wp_store1 (v:=v2) (off:=4) (new:=kcells {y with pi:=v2} {k with pipes:=(pcount k.pipes p.d1 p.e1 (-1))}) rfl rfl rfl oneSPipe HK_6.out SPi_6.out.vcells SPi_6.out.vone (show 4 + 1≤17 by decide) rfl ?_
    intro W7 hp
    have HL_7:Hid (LayAt W7 {y with pi:=v2} bs {k with pipes:=(pcount k.pipes p.d1 p.e1 (-1))}):=hU ((HL_6.out.setPi SPi_6.out).put HK_6.out noWork hp)
    have HE_7:=pK hp HE_6
    have HK_7:Hid (W7.heap[b]? =some (.cells (kcells {y with pi:=v2} {k with pipes:=(pcount k.pipes p.d1 p.e1 (-1))}) 178 (0,0))):=pA hp
    have HP_7:=pT hp HK_6 HP_6
    have HX_7:=pT hp HK_6 HX_6
    have HN_7:=pT hp HK_6 HN_6
    have SPi_7:=hU (SPi_6.out.put HK_6.out hp (by decide))
    have SP_7:=hU (SP_6.out.put HK_6.out hp (by decide))
    clear hp
    clear HK_6 HP_6 HX_6 HN_6 HE_6 HL_6 SPi_6 SP_6
    refine nt hK ?_
    clear hK K
    try clear hS
    (try simp only [acts])
    refine tp 20 ?_;try simp only [acts]
    refine tp 21 ?_;try simp only [acts]
    refine tp 22 ?_;try simp only [acts]
    refine ro 23 fun K hK=> ?_
    refine want rfl ?_
    refine wp_store1 (v:=v6) (off:=0) (new:=kcells {y with pi:=v2,p:=v6} {k with pipes:=(pcount k.pipes p.d1 p.e1 (-1)),p:=put k.p (setFd p 1 0 false)}) rfl rfl rfl oneSProc HK_7.out SP_7.out.vcells SP_7.out.vone (show 0 + 1≤17 by decide) rfl ?_
    intro W8 hp
    have HL_8:Hid (LayAt W8 {y with pi:=v2,p:=v6} bs {k with pipes:=(pcount k.pipes p.d1 p.e1 (-1)),p:=put k.p (setFd p 1 0 false)}):=hU ((HL_7.out.setP SP_7.out).put HK_7.out noWork hp)
    have HE_8:=pK hp HE_7
    have HK_8:Hid (W8.heap[b]? =some (.cells (kcells {y with pi:=v2,p:=v6} {k with pipes:=(pcount k.pipes p.d1 p.e1 (-1)),p:=put k.p (setFd p 1 0 false)}) 178 (0,0))):=pA hp
    have HP_8:=pT hp HK_7 HP_7
    have HX_8:=pT hp HK_7 HX_7
    have HN_8:=pT hp HK_7 HN_7
    have SPi_8:=hU (SPi_7.out.put HK_7.out hp (by decide))
    have SP_8:=hU (SP_7.out.put HK_7.out hp (by decide))
    clear hp
    clear HK_7 HP_7 HX_7 HN_7 HE_7 HL_7 SPi_7 SP_7
    refine nt hK ?_
    clear hK K
    try clear hS
    (try simp only [acts])
    refine doneL (by kernel_rfl) (NoPanic.normal ?_) _
    try clear hS
    repeat' (first|go_values|go_skip|go_guarded|(with_reducible refine wg ?_)|go_step|go_upon)
    go_ret2
    rw [HW.out]
    exact ⟨rfl,⟨_,_,HK_8.out,HL_8.out⟩,HE_8.out⟩
  · have hcx:x.cells[1]? =some (.int .u32 2):=by rw [← hc];rfl
    have HW:=hU (show closes k p x=⟨{k with pipes:=(pcount k.pipes p.d2 p.e2 (-1)),p:=put k.p (setFd p 2 0 false)},0,0⟩ by rw [closes,if_neg (by rw [he];simp),hc];rfl)
    have HEN2:∀ W,WorkAt W b k→Calls Tryz.prog 231 #[.pointer (some ⟨b,0,none⟩),.agg p.cells,.int .u32 2] W (Gives (.tuple #[.agg #[.int .i64 p.d2,.bool p.e2],.bool true]) W):=fun W h=> by have:=HEN W h;rw [hc] at this;exact this
    clear HEN he hc ha0 ha1 ha4
    have kX:W0.cell? ⟨w.heap.size + 1,1,none⟩=some (.int .u32 2):=(hcell HX_0.out 1).trans hcx
    go_enter Tryz.func191,Tryz.ntmps191
    repeat' (first
     |(rw [hW0];clear hW0)
     |(refine wpList_load (t:=167) (v:=.agg p.cells) rfl rfl rfl (run_load_whole aggProc HP_0.out rfl) ?_)
     |go_values|go_skip|go_guarded|(with_reducible refine wg ?_)|go_step|go_upon)
    refine (HEN2 _ ⟨_,_,HK_0.out,HL_0.out⟩).mono ?_
    rintro er W1 ⟨rfl,hb⟩
    have HK_1:=nB hb HK_0
    have HP_1:=nB hb HP_0
    have HX_1:=nB hb HX_0
    have HE_1:=nE hb HE_0
    have HL_1:=nL hb HL_0
    clear HK_0 HP_0 HX_0 HE_0 HL_0
    clear hb kX HEN2
    dsimp only
    obtain ⟨abN,hab,hab1N⟩:=nb0 HE_1
    have habKN:=nlt HK_1 hab
    have habPN:=nlt HP_1 hab
    have habXN:=nlt HX_1 hab
    obtain ⟨W2,hWn,hba,HN_2⟩:=nb1 (.cells #[.int .i64 p.d2,.bool p.e2] 162) hab
    have HK_2:=nB hba HK_1
    have HP_2:=nB hba HP_1
    have HX_2:=nB hba HX_1
    have HE_2:=nE hba HE_1
    have HL_2:=nL hba HL_1
    clear HK_1 HP_1 HX_1 HE_1 HL_1
    clear hba
    have kX:W2.cell? ⟨w.heap.size + 1,1,none⟩=some (.int .u32 2):=(hcell HX_2.out 1).trans hcx
    repeat' (first
     |(rw [hWn,hab];clear hWn hab)
     |(refine wpList_store (t:=162) (v:=.agg #[.int .i64 0,.bool false]) (off:=18) (new:=(setFd p 2 0 false).cells) rfl rfl rfl rfl aggEnd.size HP_2.out rfl (show 18 + 2≤26 by decide) (by intro u hu;simp [Value.cells] at hu;rcases hu with rfl|rfl <;> rfl) rfl ?_;intro W3 hp
       have HE_3:=pE hp HE_2
       have HL_3:Hid (LayAt W3 y bs k):=hU (hl.kept hk0 noWork HE_3.out)
       have HP_3:=pA hp
       have HK_3:=pT hp HP_2 HK_2
       have HX_3:=pT hp HP_2 HX_2
       have HN_3:=pT hp HP_2 HN_2
       clear hp
       clear HK_2 HP_2 HX_2 HN_2 HE_2 HL_2)
     |go_values|go_skip|go_guarded|(with_reducible refine wg ?_)|go_step|go_upon)
    try rw [hab]
    clear hab
    try clear hWn hab
    refine wp_region_noPanic ?_
    refine go0 (S:=fun W=> (W.cell? ⟨b,4,none⟩=some y.pi)∧(W.cell? ⟨abN,0,none⟩=some (.int .i64 p.d2))∧(W.cell? ⟨abN,1,none⟩=some (.bool p.e2))∧(W.cell? ⟨b,0,none⟩=some y.p)∧(W.heap[w.heap.size]? =some (.cells (setFd p 2 0 false).cells 167 (0,0)))) [19,23] (⟨hcell HK_3.out 4,hcell HN_3.out 0,hcell HN_3.out 1,hcell HK_3.out 0,HP_3.out⟩) fun hS=> ?_
    obtain ⟨W4,hWd⟩:=exW W3.drew
    have HK_4:=dB hWd HK_3
    have HP_4:=dB hWd HP_3
    have HX_4:=dB hWd HX_3
    have HN_4:=dB hWd HN_3
    have HE_4:=dE hWd HE_3
    have HL_4:=dL hWd HL_3
    rw [hWd] at hS ⊢
    clear hWd
    clear HK_3 HP_3 HX_3 HN_3 HE_3 HL_3
    refine tp 0 ?_;try simp only [acts]
    refine tp 1 ?_;try simp only [acts]
    refine tp 2 ?_;try simp only [acts]
    refine tp 3 ?_;try simp only [acts]
    refine tp 4 ?_;try simp only [acts]
    refine tp 5 ?_;try simp only [acts]
    refine tl 6 ?_;try simp only [acts]
    refine tl 7 ?_;try simp only [acts]
    refine tp 9 ?_;try simp only [acts]
    refine tp 10 ?_;try simp only [acts]
    refine tp 11 ?_;try simp only [acts]
    refine tp 12 ?_;try simp only [acts]
    refine tl 13 ?_;try simp only [acts]
    refine tv 14 (.agg (setFd p 2 0 false).cells) (fun W hSW=> run_val_load rfl rfl (run_load_whole aggProc hSW.2.2.2.2 rfl)) ?_
    (try simp only [acts])
    refine ro 8 fun K hK=> ?_
    refine want rfl ?_
    go_simp
    refine (PCount y.pi k.pipes p.d2 p.e2 (-1) _ HL_4.out.pi (by omega) (by decide) (hpb.big (by decide))).mono ?_
    rintro er W5 ⟨v2,rfl,hpi,hb⟩
    have HK_5:=nB hb HK_4
    have HP_5:=nB hb HP_4
    have HX_5:=nB hb HX_4
    have HN_5:=nB hb HN_4
    have HE_5:=nE hb HE_4
    have HL_5:=nL hb HL_4
    clear HK_4 HP_4 HX_4 HN_4 HE_4 HL_4
    clear hb
    have SPi_5:=hU hpi
    dsimp only
    try clear hS
    refine nx hK (⟨hcell HK_5.out 4,hcell HN_5.out 0,hcell HN_5.out 1,hcell HK_5.out 0,HP_5.out⟩) fun hS=> ?_
    clear hK K
    (try simp only [acts])
    refine ro 15 fun K hK=> ?_
    refine want rfl ?_
    go_simp
    refine (TPut y.p k.p (setFd p 2 0 false) _ HL_5.out.p (by omega)).mono ?_
    rintro er W6 ⟨v6,rfl,ho,hb⟩
    have HK_6:=nB hb HK_5
    have HP_6:=nB hb HP_5
    have HX_6:=nB hb HX_5
    have HN_6:=nB hb HN_5
    have HE_6:=nE hb HE_5
    have HL_6:=nL hb HL_5
    have SPi_6:=hU (SPi_5.out.below hb)
    clear HK_5 HP_5 HX_5 HN_5 HE_5 HL_5 SPi_5
    clear hb
    have SP_6:=hU (KR.Own.sl szProc ho)
    dsimp only
    try clear hS
    refine nx hK (⟨hcell HK_6.out 4,hcell HN_6.out 0,hcell HN_6.out 1,hcell HK_6.out 0,HP_6.out⟩) fun hS=> ?_
    clear hK K
    (try simp only [acts])
    refine tp 16 ?_;try simp only [acts]
    refine tp 17 ?_;try simp only [acts]
    refine tp 18 ?_;try simp only [acts]
    refine ro 19 fun K hK=> ?_
    refine want rfl ?_
    refine wp_store1 (v:=v2) (off:=4) (new:=kcells {y with pi:=v2} {k with pipes:=(pcount k.pipes p.d2 p.e2 (-1))}) rfl rfl rfl oneSPipe HK_6.out SPi_6.out.vcells SPi_6.out.vone (show 4 + 1≤17 by decide) rfl ?_
    intro W7 hp
    have HL_7:Hid (LayAt W7 {y with pi:=v2} bs {k with pipes:=(pcount k.pipes p.d2 p.e2 (-1))}):=hU ((HL_6.out.setPi SPi_6.out).put HK_6.out noWork hp)
    have HE_7:=pK hp HE_6
    have HK_7:Hid (W7.heap[b]? =some (.cells (kcells {y with pi:=v2} {k with pipes:=(pcount k.pipes p.d2 p.e2 (-1))}) 178 (0,0))):=pA hp
    have HP_7:=pT hp HK_6 HP_6
    have HX_7:=pT hp HK_6 HX_6
    have HN_7:=pT hp HK_6 HN_6
    have SPi_7:=hU (SPi_6.out.put HK_6.out hp (by decide))
    have SP_7:=hU (SP_6.out.put HK_6.out hp (by decide))
    clear hp
    clear HK_6 HP_6 HX_6 HN_6 HE_6 HL_6 SPi_6 SP_6
    refine nt hK ?_
    clear hK K
    try clear hS
    (try simp only [acts])
    refine tp 20 ?_;try simp only [acts]
    refine tp 21 ?_;try simp only [acts]
    refine tp 22 ?_;try simp only [acts]
    refine ro 23 fun K hK=> ?_
    refine want rfl ?_
    refine wp_store1 (v:=v6) (off:=0) (new:=kcells {y with pi:=v2,p:=v6} {k with pipes:=(pcount k.pipes p.d2 p.e2 (-1)),p:=put k.p (setFd p 2 0 false)}) rfl rfl rfl oneSProc HK_7.out SP_7.out.vcells SP_7.out.vone (show 0 + 1≤17 by decide) rfl ?_
    intro W8 hp
    have HL_8:Hid (LayAt W8 {y with pi:=v2,p:=v6} bs {k with pipes:=(pcount k.pipes p.d2 p.e2 (-1)),p:=put k.p (setFd p 2 0 false)}):=hU ((HL_7.out.setP SP_7.out).put HK_7.out noWork hp)
    have HE_8:=pK hp HE_7
    have HK_8:Hid (W8.heap[b]? =some (.cells (kcells {y with pi:=v2,p:=v6} {k with pipes:=(pcount k.pipes p.d2 p.e2 (-1)),p:=put k.p (setFd p 2 0 false)}) 178 (0,0))):=pA hp
    have HP_8:=pT hp HK_7 HP_7
    have HX_8:=pT hp HK_7 HX_7
    have HN_8:=pT hp HK_7 HN_7
    have SPi_8:=hU (SPi_7.out.put HK_7.out hp (by decide))
    have SP_8:=hU (SP_7.out.put HK_7.out hp (by decide))
    clear hp
    clear HK_7 HP_7 HX_7 HN_7 HE_7 HL_7 SPi_7 SP_7
    refine nt hK ?_
    clear hK K
    try clear hS
    (try simp only [acts])
    refine doneL (by kernel_rfl) (NoPanic.normal ?_) _
    try clear hS
    repeat' (first|go_values|go_skip|go_guarded|(with_reducible refine wg ?_)|go_step|go_upon)
    go_ret2
    rw [HW.out]
    exact ⟨rfl,⟨_,_,HK_8.out,HL_8.out⟩,HE_8.out⟩
  · have hcx:x.cells[1]? =some (.int .u32 3):=by rw [← hc];rfl
    have HW:=hU (show closes k p x=⟨{k with pipes:=(pcount k.pipes p.d3 p.e3 (-1)),p:=put k.p (setFd p 3 0 false)},0,0⟩ by rw [closes,if_neg (by rw [he];simp),hc];rfl)
    have HEN2:∀ W,WorkAt W b k→Calls Tryz.prog 231 #[.pointer (some ⟨b,0,none⟩),.agg p.cells,.int .u32 3] W (Gives (.tuple #[.agg #[.int .i64 p.d3,.bool p.e3],.bool true]) W):=fun W h=> by have:=HEN W h;rw [hc] at this;exact this
    clear HEN he hc ha0 ha1 ha4
    have kX:W0.cell? ⟨w.heap.size + 1,1,none⟩=some (.int .u32 3):=(hcell HX_0.out 1).trans hcx
    go_enter Tryz.func191,Tryz.ntmps191
    repeat' (first
     |(rw [hW0];clear hW0)
     |(refine wpList_load (t:=167) (v:=.agg p.cells) rfl rfl rfl (run_load_whole aggProc HP_0.out rfl) ?_)
     |go_values|go_skip|go_guarded|(with_reducible refine wg ?_)|go_step|go_upon)
    refine (HEN2 _ ⟨_,_,HK_0.out,HL_0.out⟩).mono ?_
    rintro er W1 ⟨rfl,hb⟩
    have HK_1:=nB hb HK_0
    have HP_1:=nB hb HP_0
    have HX_1:=nB hb HX_0
    have HE_1:=nE hb HE_0
    have HL_1:=nL hb HL_0
    clear HK_0 HP_0 HX_0 HE_0 HL_0
    clear hb kX HEN2
    dsimp only
    obtain ⟨abN,hab,hab1N⟩:=nb0 HE_1
    have habKN:=nlt HK_1 hab
    have habPN:=nlt HP_1 hab
    have habXN:=nlt HX_1 hab
    obtain ⟨W2,hWn,hba,HN_2⟩:=nb1 (.cells #[.int .i64 p.d3,.bool p.e3] 162) hab
    have HK_2:=nB hba HK_1
    have HP_2:=nB hba HP_1
    have HX_2:=nB hba HX_1
    have HE_2:=nE hba HE_1
    have HL_2:=nL hba HL_1
    clear HK_1 HP_1 HX_1 HE_1 HL_1
    clear hba
    have kX:W2.cell? ⟨w.heap.size + 1,1,none⟩=some (.int .u32 3):=(hcell HX_2.out 1).trans hcx
    repeat' (first
     |(rw [hWn,hab];clear hWn hab)
     |(refine wpList_store (t:=162) (v:=.agg #[.int .i64 0,.bool false]) (off:=20) (new:=(setFd p 3 0 false).cells) rfl rfl rfl rfl aggEnd.size HP_2.out rfl (show 20 + 2≤26 by decide) (by intro u hu;simp [Value.cells] at hu;rcases hu with rfl|rfl <;> rfl) rfl ?_;intro W3 hp
       have HE_3:=pE hp HE_2
       have HL_3:Hid (LayAt W3 y bs k):=hU (hl.kept hk0 noWork HE_3.out)
       have HP_3:=pA hp
       have HK_3:=pT hp HP_2 HK_2
       have HX_3:=pT hp HP_2 HX_2
       have HN_3:=pT hp HP_2 HN_2
       clear hp
       clear HK_2 HP_2 HX_2 HN_2 HE_2 HL_2)
     |go_values|go_skip|go_guarded|(with_reducible refine wg ?_)|go_step|go_upon)
    try rw [hab]
    clear hab
    try clear hWn hab
    refine wp_region_noPanic ?_
    refine go0 (S:=fun W=> (W.cell? ⟨b,4,none⟩=some y.pi)∧(W.cell? ⟨abN,0,none⟩=some (.int .i64 p.d3))∧(W.cell? ⟨abN,1,none⟩=some (.bool p.e3))∧(W.cell? ⟨b,0,none⟩=some y.p)∧(W.heap[w.heap.size]? =some (.cells (setFd p 3 0 false).cells 167 (0,0)))) [19,23] (⟨hcell HK_3.out 4,hcell HN_3.out 0,hcell HN_3.out 1,hcell HK_3.out 0,HP_3.out⟩) fun hS=> ?_
    obtain ⟨W4,hWd⟩:=exW W3.drew
    have HK_4:=dB hWd HK_3
    have HP_4:=dB hWd HP_3
    have HX_4:=dB hWd HX_3
    have HN_4:=dB hWd HN_3
    have HE_4:=dE hWd HE_3
    have HL_4:=dL hWd HL_3
    rw [hWd] at hS ⊢
    clear hWd
    clear HK_3 HP_3 HX_3 HN_3 HE_3 HL_3
    refine tp 0 ?_;try simp only [acts]
    refine tp 1 ?_;try simp only [acts]
    refine tp 2 ?_;try simp only [acts]
    refine tp 3 ?_;try simp only [acts]
    refine tp 4 ?_;try simp only [acts]
    refine tp 5 ?_;try simp only [acts]
    refine tl 6 ?_;try simp only [acts]
    refine tl 7 ?_;try simp only [acts]
    refine tp 9 ?_;try simp only [acts]
    refine tp 10 ?_;try simp only [acts]
    refine tp 11 ?_;try simp only [acts]
    refine tp 12 ?_;try simp only [acts]
    refine tl 13 ?_;try simp only [acts]
    refine tv 14 (.agg (setFd p 3 0 false).cells) (fun W hSW=> run_val_load rfl rfl (run_load_whole aggProc hSW.2.2.2.2 rfl)) ?_
    (try simp only [acts])
    refine ro 8 fun K hK=> ?_
    refine want rfl ?_
    go_simp
    refine (PCount y.pi k.pipes p.d3 p.e3 (-1) _ HL_4.out.pi (by omega) (by decide) (hpb.big (by decide))).mono ?_
    rintro er W5 ⟨v2,rfl,hpi,hb⟩
    have HK_5:=nB hb HK_4
    have HP_5:=nB hb HP_4
    have HX_5:=nB hb HX_4
    have HN_5:=nB hb HN_4
    have HE_5:=nE hb HE_4
    have HL_5:=nL hb HL_4
    clear HK_4 HP_4 HX_4 HN_4 HE_4 HL_4
    clear hb
    have SPi_5:=hU hpi
    dsimp only
    try clear hS
    refine nx hK (⟨hcell HK_5.out 4,hcell HN_5.out 0,hcell HN_5.out 1,hcell HK_5.out 0,HP_5.out⟩) fun hS=> ?_
    clear hK K
    (try simp only [acts])
    refine ro 15 fun K hK=> ?_
    refine want rfl ?_
    go_simp
    refine (TPut y.p k.p (setFd p 3 0 false) _ HL_5.out.p (by omega)).mono ?_
    rintro er W6 ⟨v6,rfl,ho,hb⟩
    have HK_6:=nB hb HK_5
    have HP_6:=nB hb HP_5
    have HX_6:=nB hb HX_5
    have HN_6:=nB hb HN_5
    have HE_6:=nE hb HE_5
    have HL_6:=nL hb HL_5
    have SPi_6:=hU (SPi_5.out.below hb)
    clear HK_5 HP_5 HX_5 HN_5 HE_5 HL_5 SPi_5
    clear hb
    have SP_6:=hU (KR.Own.sl szProc ho)
    dsimp only
    try clear hS
    refine nx hK (⟨hcell HK_6.out 4,hcell HN_6.out 0,hcell HN_6.out 1,hcell HK_6.out 0,HP_6.out⟩) fun hS=> ?_
    clear hK K
    (try simp only [acts])
    refine tp 16 ?_;try simp only [acts]
    refine tp 17 ?_;try simp only [acts]
    refine tp 18 ?_;try simp only [acts]
    refine ro 19 fun K hK=> ?_
    refine want rfl ?_
    refine wp_store1 (v:=v2) (off:=4) (new:=kcells {y with pi:=v2} {k with pipes:=(pcount k.pipes p.d3 p.e3 (-1))}) rfl rfl rfl oneSPipe HK_6.out SPi_6.out.vcells SPi_6.out.vone (show 4 + 1≤17 by decide) rfl ?_
    intro W7 hp
    have HL_7:Hid (LayAt W7 {y with pi:=v2} bs {k with pipes:=(pcount k.pipes p.d3 p.e3 (-1))}):=hU ((HL_6.out.setPi SPi_6.out).put HK_6.out noWork hp)
    have HE_7:=pK hp HE_6
    have HK_7:Hid (W7.heap[b]? =some (.cells (kcells {y with pi:=v2} {k with pipes:=(pcount k.pipes p.d3 p.e3 (-1))}) 178 (0,0))):=pA hp
    have HP_7:=pT hp HK_6 HP_6
    have HX_7:=pT hp HK_6 HX_6
    have HN_7:=pT hp HK_6 HN_6
    have SPi_7:=hU (SPi_6.out.put HK_6.out hp (by decide))
    have SP_7:=hU (SP_6.out.put HK_6.out hp (by decide))
    clear hp
    clear HK_6 HP_6 HX_6 HN_6 HE_6 HL_6 SPi_6 SP_6
    refine nt hK ?_
    clear hK K
    try clear hS
    (try simp only [acts])
    refine tp 20 ?_;try simp only [acts]
    refine tp 21 ?_;try simp only [acts]
    refine tp 22 ?_;try simp only [acts]
    refine ro 23 fun K hK=> ?_
    refine want rfl ?_
    refine wp_store1 (v:=v6) (off:=0) (new:=kcells {y with pi:=v2,p:=v6} {k with pipes:=(pcount k.pipes p.d3 p.e3 (-1)),p:=put k.p (setFd p 3 0 false)}) rfl rfl rfl oneSProc HK_7.out SP_7.out.vcells SP_7.out.vone (show 0 + 1≤17 by decide) rfl ?_
    intro W8 hp
    have HL_8:Hid (LayAt W8 {y with pi:=v2,p:=v6} bs {k with pipes:=(pcount k.pipes p.d3 p.e3 (-1)),p:=put k.p (setFd p 3 0 false)}):=hU ((HL_7.out.setP SP_7.out).put HK_7.out noWork hp)
    have HE_8:=pK hp HE_7
    have HK_8:Hid (W8.heap[b]? =some (.cells (kcells {y with pi:=v2,p:=v6} {k with pipes:=(pcount k.pipes p.d3 p.e3 (-1)),p:=put k.p (setFd p 3 0 false)}) 178 (0,0))):=pA hp
    have HP_8:=pT hp HK_7 HP_7
    have HX_8:=pT hp HK_7 HX_7
    have HN_8:=pT hp HK_7 HN_7
    have SPi_8:=hU (SPi_7.out.put HK_7.out hp (by decide))
    have SP_8:=hU (SP_7.out.put HK_7.out hp (by decide))
    clear hp
    clear HK_7 HP_7 HX_7 HN_7 HE_7 HL_7 SPi_7 SP_7
    refine nt hK ?_
    clear hK K
    try clear hS
    (try simp only [acts])
    refine doneL (by kernel_rfl) (NoPanic.normal ?_) _
    try clear hS
    repeat' (first|go_values|go_skip|go_guarded|(with_reducible refine wg ?_)|go_step|go_upon)
    go_ret2
    rw [HW.out]
    exact ⟨rfl,⟨_,_,HK_8.out,HL_8.out⟩,HE_8.out⟩
end Kn
end Go.Proofs.YtkepkcjjenidgaaGreatDoor
