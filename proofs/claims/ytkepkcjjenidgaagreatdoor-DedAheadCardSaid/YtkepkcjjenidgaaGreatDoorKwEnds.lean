/- work.ends: a process ends. Conditions: as many as Go can hold; numbers are small. -/
import Derived.Test.YtkepkcjjenidgaaGreatDoorKwFresh
import Derived.Test.YtkepkcjjenidgaaGreatDoorGTabF
import Derived.Test.YtkepkcjjenidgaaGreatDoorGHeap
import Derived.Test.YtkepkcjjenidgaaGreatDoorGWork
set_option linter.unusedVariables false
set_option maxRecDepth 100000
set_option maxHeartbeats 8000000
set_option linter.unusedSimpArgs false
namespace Go.Proofs.YtkepkcjjenidgaaGreatDoor
open Go.RowKit KR RegT3
namespace Kn
theorem WEnds (b:Nat) (k:Kern) (pid code why:Int) (w:World) (hk:WorkAt w b k) (hn:k.p.length≤1000000) (ht:k.t.l.length≤1000000) (hsl:k.s.length≤1000000) (hpl:k.pipes.length≤1000000) (hpb:PB 1000000 k.pipes) (hhl:k.h.length≤1000000) (hw0:0≤why) (hw1:why≤1000):
 Calls Tryz.prog 132 #[.pointer (some ⟨b,0,none⟩),.int .i64 pid,.int .i64 code,.int .i64 why] w (GivesU b (ends k pid code why) w):=by
 obtain ⟨y,bs,hk0,hl⟩:=hk
 have hbl:=hlt hk0
 have HK_0:Hid (w.heap[b]? =some (.cells (kcells y k) 178 (0,0))):=hU hk0
 have HE_0:Hid (KR.Kept b w w):=hU (Kept.refl _ _)
 have HL_0:Hid (LayAt w y bs k):=hU hl
 by_cases h1:pid=1
 · have hend:ends k pid code why={k with p:=[],t:=⟨[],0⟩,s:=[],pipes:=[],h:=[],gone:=1 + why}:=if_pos h1
   have hpb1:(pid==1)=true:=by simp [h1]
   have hww:IntKind.i64.wrap (1 + why)=1 + why:=by rw [IntKind.wrap_i64];omega
   rw [hend]
   clear hend
   go_enter Tryz.func132,Tryz.ntmps132
   repeat' (first
    |(refine wpList_store1 (t:=42) (v:=.slice none 0 0) (off:=0) (new:=kcells {y with p:=.slice none 0 0} {k with p:=[]}) rfl rfl rfl rfl oneSProc HK_0.out rfl rfl (show 0 + 1≤17 by decide) rfl ?_;intro W1 hp
      have HL_1:Hid (LayAt W1 {y with p:=.slice none 0 0} bs {k with p:=[]}):=hU ((HL_0.out.setP Sl.nil).put HK_0.out noWork hp)
      have HE_1:=pK hp HE_0
      have HK_1:Hid (W1.heap[b]? =some (.cells (kcells {y with p:=.slice none 0 0} {k with p:=[]}) 178 (0,0))):=pA hp
      clear hp
      clear HK_0 HE_0 HL_0)
    |(refine wpList_store (t:=45) (v:=.agg #[.slice none 0 0,.int .i64 0]) (off:=1) (new:=kcells {y with p:=.slice none 0 0,t:=.slice none 0 0} {k with p:=[],t:=⟨[],0⟩}) rfl rfl rfl rfl aggTurn.size HK_1.out rfl (show 1 + 2≤17 by decide) (onesT (W:=w) Sl.nil) rfl ?_;intro W2 hp
      have HL_2:Hid (LayAt W2 {y with p:=.slice none 0 0,t:=.slice none 0 0} bs {k with p:=[],t:=⟨[],0⟩}):=hU ((HL_1.out.setT (t:=⟨[],0⟩) Sl.nil).put HK_1.out noWork hp)
      have HE_2:=pK hp HE_1
      have HK_2:Hid (W2.heap[b]? =some (.cells (kcells {y with p:=.slice none 0 0,t:=.slice none 0 0} {k with p:=[],t:=⟨[],0⟩}) 178 (0,0))):=pA hp
      clear hp
      clear HK_1 HE_1 HL_1)
    |(refine wpList_store1 (t:=46) (v:=.slice none 0 0) (off:=3) (new:=kcells {y with p:=.slice none 0 0,t:=.slice none 0 0,s:=.slice none 0 0} {k with p:=[],t:=⟨[],0⟩,s:=[]}) rfl rfl rfl rfl oneSAlarm HK_2.out rfl rfl (show 3 + 1≤17 by decide) rfl ?_;intro W3 hp
      have HL_3:Hid (LayAt W3 {y with p:=.slice none 0 0,t:=.slice none 0 0,s:=.slice none 0 0} bs {k with p:=[],t:=⟨[],0⟩,s:=[]}):=hU ((HL_2.out.setS Sl.nil).put HK_2.out noWork hp)
      have HE_3:=pK hp HE_2
      have HK_3:Hid (W3.heap[b]? =some (.cells (kcells {y with p:=.slice none 0 0,t:=.slice none 0 0,s:=.slice none 0 0} {k with p:=[],t:=⟨[],0⟩,s:=[]}) 178 (0,0))):=pA hp
      clear hp
      clear HK_2 HE_2 HL_2)
    |(refine wpList_store1 (t:=47) (v:=.slice none 0 0) (off:=4) (new:=kcells {y with p:=.slice none 0 0,t:=.slice none 0 0,s:=.slice none 0 0,pi:=.slice none 0 0} {k with p:=[],t:=⟨[],0⟩,s:=[],pipes:=[]}) rfl rfl rfl rfl oneSPipe HK_3.out rfl rfl (show 4 + 1≤17 by decide) rfl ?_;intro W4 hp
      have HL_4:Hid (LayAt W4 {y with p:=.slice none 0 0,t:=.slice none 0 0,s:=.slice none 0 0,pi:=.slice none 0 0} bs {k with p:=[],t:=⟨[],0⟩,s:=[],pipes:=[]}):=hU ((HL_3.out.setPi Sl.nil).put HK_3.out noWork hp)
      have HE_4:=pK hp HE_3
      have HK_4:Hid (W4.heap[b]? =some (.cells (kcells {y with p:=.slice none 0 0,t:=.slice none 0 0,s:=.slice none 0 0,pi:=.slice none 0 0} {k with p:=[],t:=⟨[],0⟩,s:=[],pipes:=[]}) 178 (0,0))):=pA hp
      clear hp
      clear HK_3 HE_3 HL_3)
    |(refine wpList_store1 (t:=48) (v:=.slice none 0 0) (off:=6) (new:=kcells {y with p:=.slice none 0 0,t:=.slice none 0 0,s:=.slice none 0 0,pi:=.slice none 0 0,h:=.slice none 0 0} {k with p:=[],t:=⟨[],0⟩,s:=[],pipes:=[],h:=[]}) rfl rfl rfl rfl oneSSpan HK_4.out rfl rfl (show 6 + 1≤17 by decide) rfl ?_;intro W5 hp
      have HL_5:Hid (LayAt W5 {y with p:=.slice none 0 0,t:=.slice none 0 0,s:=.slice none 0 0,pi:=.slice none 0 0,h:=.slice none 0 0} bs {k with p:=[],t:=⟨[],0⟩,s:=[],pipes:=[],h:=[]}):=hU ((HL_4.out.setH Sl.nil).put HK_4.out noWork hp)
      have HE_5:=pK hp HE_4
      have HK_5:Hid (W5.heap[b]? =some (.cells (kcells {y with p:=.slice none 0 0,t:=.slice none 0 0,s:=.slice none 0 0,pi:=.slice none 0 0,h:=.slice none 0 0} {k with p:=[],t:=⟨[],0⟩,s:=[],pipes:=[],h:=[]}) 178 (0,0))):=pA hp
      clear hp
      clear HK_4 HE_4 HL_4)
    |(refine wpList_store1 (t:=3) (v:=.int .i64 (1 + why)) (off:=16) (new:=kcells {y with p:=.slice none 0 0,t:=.slice none 0 0,s:=.slice none 0 0,pi:=.slice none 0 0,h:=.slice none 0 0} {k with p:=[],t:=⟨[],0⟩,s:=[],pipes:=[],h:=[],gone:=1 + why}) rfl rfl rfl rfl oneInt HK_5.out rfl rfl (show 16 + 1≤17 by decide) rfl ?_;intro W6 hp
      have HL_6:Hid (LayAt W6 {y with p:=.slice none 0 0,t:=.slice none 0 0,s:=.slice none 0 0,pi:=.slice none 0 0,h:=.slice none 0 0} bs {k with p:=[],t:=⟨[],0⟩,s:=[],pipes:=[],h:=[],gone:=1 + why}):=hU ((HL_5.out.setGone (1 + why)).put HK_5.out noWork hp)
      have HE_6:=pK hp HE_5
      have HK_6:Hid (W6.heap[b]? =some (.cells (kcells {y with p:=.slice none 0 0,t:=.slice none 0 0,s:=.slice none 0 0,pi:=.slice none 0 0,h:=.slice none 0 0} {k with p:=[],t:=⟨[],0⟩,s:=[],pipes:=[],h:=[],gone:=1 + why}) 178 (0,0))):=pA hp
      clear hp
      clear HK_5 HE_5 HL_5)
    |go_values|go_skip|go_guarded|(with_reducible refine wg ?_)|go_step|go_upon)
   (try simp only [Exit.inBlock,Exit.then]);refine bodyPost_ret (results_none rfl _ _ _) rfl ?_
   exact ⟨⟨_,rfl⟩,⟨_,_,HK_6.out,HL_6.out⟩,HE_6.out⟩
 obtain ⟨p,hp⟩:∃ p,(find k.p pid).getD Proc.zero=p:=⟨_,rfl⟩
 have hend:ends k pid code why=if ((find (adopt k.p pid 1) p.par).map (fun q=> q.st==4)).getD true=true then {k with pipes:=count4 k.pipes p (-1),h:=hdrop k.h pid,t:=tdrop k.t pid,s:=sdrop k.s pid,p:=remove (adopt k.p pid 1) pid} else {k with pipes:=count4 k.pipes p (-1),h:=hdrop k.h pid,t:=tdrop k.t pid,s:=sdrop k.s pid,p:=put (adopt k.p pid 1) (over p code)}:=by rw [ends,if_neg h1,hp]
 have HEND:=hU hend
 have hpb1:(pid==1)=false:=by simp [h1]
 have HF:=TFind y.p k.p pid w hl.p
 rw [hp] at HF
 clear hend hp
 have kP:w.cell? ⟨b,0,none⟩=some y.p:=hcell hk0 0
 go_enter Tryz.func132,Tryz.ntmps132
 repeat' (first
  |go_values|go_skip|go_guarded|(with_reducible refine wg ?_)|go_step|go_upon)
 refine HF.mono ?_
 rintro er W1 ⟨rfl,hb⟩
 have HK_1:=nB hb HK_0
 have HE_1:=nE hb HE_0
 have HL_1:=nL hb HL_0
 clear HK_0 HE_0 HL_0
 clear hb HF kP
 dsimp only
 obtain ⟨abQ,hab,hab1Q⟩:=nb0 HE_1
 have habKQ:=nlt HK_1 hab
 have hoffQ:=HL_1.out.p.offNew (Nat.le_of_eq hab)
 obtain ⟨W2,hWn,hba,HQ_2⟩:=nb1 (.cells #[.int .i64 0,.int .i64 0,.int .i64 0,.int .u32 0,.int .u32 0,.int .u32 0,.int .u32 0,.int .u32 0,.int .u32 0,.int .u32 0,.int .u32 0,.int .u32 0,.string ⟨#[]⟩,.int .i64 0,.int .i64 0,.bool false,.int .i64 0,.bool false,.int .i64 0,.bool false,.int .i64 0,.bool false,.int .u32 0,.int .u32 0,.int .u32 0,.int .u32 0] 167) hab
 have HK_2:=nB hba HK_1
 have HE_2:=nE hba HE_1
 have HL_2:=nL hba HL_1
 clear HK_1 HE_1 HL_1
 clear hba
 repeat' (first
  |(rw [hWn,hab];clear hWn hab)
  |(refine wpList_store (t:=167) (v:=.agg p.cells) (off:=0) (new:=p.cells) rfl rfl rfl rfl aggProc.size HQ_2.out rfl (show 0 + 26≤26 by decide) (onesProc p) rfl ?_;intro W3 hp
    have HE_3:=pE hp HE_2
    have HL_3:Hid (LayAt W3 y bs k):=hU (HL_2.out.putProc (HL_2.out.p.putOff hoffQ hp) HQ_2.out hp)
    have HQ_3:=pA hp
    have HK_3:=pT hp HQ_2 HK_2
    clear hp
    clear HK_2 HQ_2 HE_2 HL_2)
  |(refine wpList_load (t:=163) (v:=.agg (fdCells p.d0 p.e0 p.d1 p.e1 p.d2 p.e2 p.d3 p.e3)) rfl rfl rfl (run_load_part aggFds (show _ from HQ_3.out) (o:=14) rfl rfl) ?_)
  |go_values|go_skip|go_guarded|(with_reducible refine wg ?_)|go_step|go_upon)
 try clear hWn hab
 unfold fdCells
 have hx0:=fun W=> idxFd0 p.d0 p.e0 p.d1 p.e1 p.d2 p.e2 p.d3 p.e3 W
 have hx1:=fun W=> idxFd1 p.d0 p.e0 p.d1 p.e1 p.d2 p.e2 p.d3 p.e3 W
 have hx2:=fun W=> idxFd2 p.d0 p.e0 p.d1 p.e1 p.d2 p.e2 p.d3 p.e3 W
 have hx3:=fun W=> idxFd3 p.d0 p.e0 p.d1 p.e1 p.d2 p.e2 p.d3 p.e3 W
 refine wp_loop_rounds 5 ?_
 rw [rounds_succ]
 obtain ⟨abE0,hab,hab1E0⟩:=nb0 HE_3
 have habKE0:=nlt HK_3 hab
 have habQE0:=nlt HQ_3 hab
 obtain ⟨W4,hWn,hba,HE0_4⟩:=nb1 (.cells #[.int .i64 p.d0,.bool p.e0] 162) hab
 have HK_4:=nB hba HK_3
 have HQ_4:=nB hba HQ_3
 have HE_4:=nE hba HE_3
 have HL_4:=nL hba HL_3
 clear HK_3 HQ_3 HE_3 HL_3
 clear hba
 repeat' (first
  |(rw [hWn];clear hWn)
  |go_values|go_skip|go_guarded|(with_reducible refine wg ?_)|go_step|go_upon)
 try rw [hab]
 clear hab
 have hpb0:PB 1000001 (pcount k.pipes p.d0 p.e0 (-1)):=pcount_PB hpb _ _ _ (by decide) (by decide)
 have hpl0:(pcount k.pipes p.d0 p.e0 (-1)).length≤1000000:=by rw [pcount_length];exact hpl
 refine wp_region_noPanic ?_
 refine go0 (S:=fun W=> (W.cell? ⟨b,4,none⟩=some y.pi)∧(W.cell? ⟨abE0,0,none⟩=some (.int .i64 p.d0))∧(W.cell? ⟨abE0,1,none⟩=some (.bool p.e0))) [11] (⟨hcell HK_4.out 4,hcell HE0_4.out 0,hcell HE0_4.out 1⟩) fun hS=> ?_
 obtain ⟨W5,hWd⟩:=exW W4.drew
 have HK_5:=dB hWd HK_4
 have HQ_5:=dB hWd HQ_4
 have HE0_5:=dB hWd HE0_4
 have HE_5:=dE hWd HE_4
 have HL_5:=dL hWd HL_4
 rw [hWd] at hS ⊢
 clear hWd
 clear HK_4 HQ_4 HE0_4 HE_4 HL_4
 refine tp 0 ?_;try simp only [acts]
 refine tp 1 ?_;try simp only [acts]
 refine tp 2 ?_;try simp only [acts]
 refine tp 3 ?_;try simp only [acts]
 refine tp 4 ?_;try simp only [acts]
 refine tl 5 ?_;try simp only [acts]
 refine tl 6 ?_;try simp only [acts]
 refine ro 7 fun K hK=> ?_
 refine want rfl ?_
 go_simp
 refine (PCount y.pi k.pipes p.d0 p.e0 (-1) _ HL_5.out.pi (by omega) (by decide) (hpb.big (by decide))).mono ?_
 rintro er W6 ⟨v20,rfl,hpi,hb⟩
 have HK_6:=nB hb HK_5
 have HQ_6:=nB hb HQ_5
 have HE0_6:=nB hb HE0_5
 have HE_6:=nE hb HE_5
 have HL_6:=nL hb HL_5
 clear HK_5 HQ_5 HE0_5 HE_5 HL_5
 clear hb
 have SPi_6:=hU hpi
 dsimp only
 try clear hS
 refine nx hK (⟨hcell HK_6.out 4,hcell HE0_6.out 0,hcell HE0_6.out 1⟩) fun hS=> ?_
 clear hK K
 (try simp only [acts])
 refine tp 8 ?_;try simp only [acts]
 refine tp 9 ?_;try simp only [acts]
 refine tp 10 ?_;try simp only [acts]
 refine ro 11 fun K hK=> ?_
 refine want rfl ?_
 refine wp_store1 (v:=v20) (off:=4) (new:=kcells {y with pi:=v20} {k with pipes:=(pcount k.pipes p.d0 p.e0 (-1))}) rfl rfl rfl oneSPipe HK_6.out SPi_6.out.vcells SPi_6.out.vone (show 4 + 1≤17 by decide) rfl ?_
 intro W7 hp
 have HL_7:Hid (LayAt W7 {y with pi:=v20} bs {k with pipes:=(pcount k.pipes p.d0 p.e0 (-1))}):=hU ((HL_6.out.setPi SPi_6.out).put HK_6.out noWork hp)
 have HE_7:=pK hp HE_6
 have HK_7:Hid (W7.heap[b]? =some (.cells (kcells {y with pi:=v20} {k with pipes:=(pcount k.pipes p.d0 p.e0 (-1))}) 178 (0,0))):=pA hp
 have HQ_7:=pT hp HK_6 HQ_6
 have HE0_7:=pT hp HK_6 HE0_6
 have SPi_7:=hU (SPi_6.out.put HK_6.out hp (by decide))
 clear hp
 clear HK_6 HQ_6 HE0_6 HE_6 HL_6 SPi_6
 refine nt hK ?_
 clear hK K
 try clear hS
 (try simp only [acts])
 refine doneL (by kernel_rfl) (NoPanic.normal ?_) _
 try clear hS
 clear SPi_7
 clear HE0_7
 repeat' (first|go_values|go_skip|go_guarded|(with_reducible refine wg ?_)|go_step|go_upon)
 rw [rounds_succ]
 obtain ⟨abE1,hab,hab1E1⟩:=nb0 HE_7
 have habKE1:=nlt HK_7 hab
 have habQE1:=nlt HQ_7 hab
 obtain ⟨W8,hWn,hba,HE1_8⟩:=nb1 (.cells #[.int .i64 p.d1,.bool p.e1] 162) hab
 have HK_8:=nB hba HK_7
 have HQ_8:=nB hba HQ_7
 have HE_8:=nE hba HE_7
 have HL_8:=nL hba HL_7
 clear HK_7 HQ_7 HE_7 HL_7
 clear hba
 repeat' (first
  |(rw [hWn];clear hWn)
  |go_values|go_skip|go_guarded|(with_reducible refine wg ?_)|go_step|go_upon)
 try rw [hab]
 clear hab
 have hpb1:PB 1000002 (pcount (pcount k.pipes p.d0 p.e0 (-1)) p.d1 p.e1 (-1)):=pcount_PB hpb0 _ _ _ (by decide) (by decide)
 have hpl1:(pcount (pcount k.pipes p.d0 p.e0 (-1)) p.d1 p.e1 (-1)).length≤1000000:=by rw [pcount_length];exact hpl0
 refine wp_region_noPanic ?_
 refine go0 (S:=fun W=> (W.cell? ⟨b,4,none⟩=some v20)∧(W.cell? ⟨abE1,0,none⟩=some (.int .i64 p.d1))∧(W.cell? ⟨abE1,1,none⟩=some (.bool p.e1))) [11] (⟨hcell HK_8.out 4,hcell HE1_8.out 0,hcell HE1_8.out 1⟩) fun hS=> ?_
 obtain ⟨W9,hWd⟩:=exW W8.drew
 have HK_9:=dB hWd HK_8
 have HQ_9:=dB hWd HQ_8
 have HE1_9:=dB hWd HE1_8
 have HE_9:=dE hWd HE_8
 have HL_9:=dL hWd HL_8
 rw [hWd] at hS ⊢
 clear hWd
 clear HK_8 HQ_8 HE1_8 HE_8 HL_8
 refine tp 0 ?_;try simp only [acts]
 refine tp 1 ?_;try simp only [acts]
 refine tp 2 ?_;try simp only [acts]
 refine tp 3 ?_;try simp only [acts]
 refine tp 4 ?_;try simp only [acts]
 refine tl 5 ?_;try simp only [acts]
 refine tl 6 ?_;try simp only [acts]
 refine ro 7 fun K hK=> ?_
 refine want rfl ?_
 go_simp
 refine (PCount v20 (pcount k.pipes p.d0 p.e0 (-1)) p.d1 p.e1 (-1) _ HL_9.out.pi (by omega) (by decide) (hpb0.big (by decide))).mono ?_
 rintro er W10 ⟨v21,rfl,hpi,hb⟩
 have HK_10:=nB hb HK_9
 have HQ_10:=nB hb HQ_9
 have HE1_10:=nB hb HE1_9
 have HE_10:=nE hb HE_9
 have HL_10:=nL hb HL_9
 clear HK_9 HQ_9 HE1_9 HE_9 HL_9
 clear hb
 have SPi_10:=hU hpi
 dsimp only
 try clear hS
 refine nx hK (⟨hcell HK_10.out 4,hcell HE1_10.out 0,hcell HE1_10.out 1⟩) fun hS=> ?_
 clear hK K
 (try simp only [acts])
 refine tp 8 ?_;try simp only [acts]
 refine tp 9 ?_;try simp only [acts]
 refine tp 10 ?_;try simp only [acts]
 refine ro 11 fun K hK=> ?_
 refine want rfl ?_
 refine wp_store1 (v:=v21) (off:=4) (new:=kcells {y with pi:=v21} {k with pipes:=(pcount (pcount k.pipes p.d0 p.e0 (-1)) p.d1 p.e1 (-1))}) rfl rfl rfl oneSPipe HK_10.out SPi_10.out.vcells SPi_10.out.vone (show 4 + 1≤17 by decide) rfl ?_
 intro W11 hp
 have HL_11:Hid (LayAt W11 {y with pi:=v21} bs {k with pipes:=(pcount (pcount k.pipes p.d0 p.e0 (-1)) p.d1 p.e1 (-1))}):=hU ((HL_10.out.setPi SPi_10.out).put HK_10.out noWork hp)
 have HE_11:=pK hp HE_10
 have HK_11:Hid (W11.heap[b]? =some (.cells (kcells {y with pi:=v21} {k with pipes:=(pcount (pcount k.pipes p.d0 p.e0 (-1)) p.d1 p.e1 (-1))}) 178 (0,0))):=pA hp
 have HQ_11:=pT hp HK_10 HQ_10
 have HE1_11:=pT hp HK_10 HE1_10
 have SPi_11:=hU (SPi_10.out.put HK_10.out hp (by decide))
 clear hp
 clear HK_10 HQ_10 HE1_10 HE_10 HL_10 SPi_10
 refine nt hK ?_
 clear hK K
 try clear hS
 (try simp only [acts])
 refine doneL (by kernel_rfl) (NoPanic.normal ?_) _
 try clear hS
 clear SPi_11
 clear HE1_11
 repeat' (first|go_values|go_skip|go_guarded|(with_reducible refine wg ?_)|go_step|go_upon)
 rw [rounds_succ]
 obtain ⟨abE2,hab,hab1E2⟩:=nb0 HE_11
 have habKE2:=nlt HK_11 hab
 have habQE2:=nlt HQ_11 hab
 obtain ⟨W12,hWn,hba,HE2_12⟩:=nb1 (.cells #[.int .i64 p.d2,.bool p.e2] 162) hab
 have HK_12:=nB hba HK_11
 have HQ_12:=nB hba HQ_11
 have HE_12:=nE hba HE_11
 have HL_12:=nL hba HL_11
 clear HK_11 HQ_11 HE_11 HL_11
 clear hba
 repeat' (first
  |(rw [hWn];clear hWn)
  |go_values|go_skip|go_guarded|(with_reducible refine wg ?_)|go_step|go_upon)
 try rw [hab]
 clear hab
 have hpb2:PB 1000003 (pcount (pcount (pcount k.pipes p.d0 p.e0 (-1)) p.d1 p.e1 (-1)) p.d2 p.e2 (-1)):=pcount_PB hpb1 _ _ _ (by decide) (by decide)
 have hpl2:(pcount (pcount (pcount k.pipes p.d0 p.e0 (-1)) p.d1 p.e1 (-1)) p.d2 p.e2 (-1)).length≤1000000:=by rw [pcount_length];exact hpl1
 refine wp_region_noPanic ?_
 refine go0 (S:=fun W=> (W.cell? ⟨b,4,none⟩=some v21)∧(W.cell? ⟨abE2,0,none⟩=some (.int .i64 p.d2))∧(W.cell? ⟨abE2,1,none⟩=some (.bool p.e2))) [11] (⟨hcell HK_12.out 4,hcell HE2_12.out 0,hcell HE2_12.out 1⟩) fun hS=> ?_
 obtain ⟨W13,hWd⟩:=exW W12.drew
 have HK_13:=dB hWd HK_12
 have HQ_13:=dB hWd HQ_12
 have HE2_13:=dB hWd HE2_12
 have HE_13:=dE hWd HE_12
 have HL_13:=dL hWd HL_12
 rw [hWd] at hS ⊢
 clear hWd
 clear HK_12 HQ_12 HE2_12 HE_12 HL_12
 refine tp 0 ?_;try simp only [acts]
 refine tp 1 ?_;try simp only [acts]
 refine tp 2 ?_;try simp only [acts]
 refine tp 3 ?_;try simp only [acts]
 refine tp 4 ?_;try simp only [acts]
 refine tl 5 ?_;try simp only [acts]
 refine tl 6 ?_;try simp only [acts]
 refine ro 7 fun K hK=> ?_
 refine want rfl ?_
 go_simp
 refine (PCount v21 (pcount (pcount k.pipes p.d0 p.e0 (-1)) p.d1 p.e1 (-1)) p.d2 p.e2 (-1) _ HL_13.out.pi (by omega) (by decide) (hpb1.big (by decide))).mono ?_
 rintro er W14 ⟨v22,rfl,hpi,hb⟩
 have HK_14:=nB hb HK_13
 have HQ_14:=nB hb HQ_13
 have HE2_14:=nB hb HE2_13
 have HE_14:=nE hb HE_13
 have HL_14:=nL hb HL_13
 clear HK_13 HQ_13 HE2_13 HE_13 HL_13
 clear hb
 have SPi_14:=hU hpi
 dsimp only
 try clear hS
 refine nx hK (⟨hcell HK_14.out 4,hcell HE2_14.out 0,hcell HE2_14.out 1⟩) fun hS=> ?_
 clear hK K
 (try simp only [acts])
 refine tp 8 ?_;try simp only [acts]
 refine tp 9 ?_;try simp only [acts]
 refine tp 10 ?_;try simp only [acts]
 refine ro 11 fun K hK=> ?_
 refine want rfl ?_
 refine wp_store1 (v:=v22) (off:=4) (new:=kcells {y with pi:=v22} {k with pipes:=(pcount (pcount (pcount k.pipes p.d0 p.e0 (-1)) p.d1 p.e1 (-1)) p.d2 p.e2 (-1))}) rfl rfl rfl oneSPipe HK_14.out SPi_14.out.vcells SPi_14.out.vone (show 4 + 1≤17 by decide) rfl ?_
 intro W15 hp
 have HL_15:Hid (LayAt W15 {y with pi:=v22} bs {k with pipes:=(pcount (pcount (pcount k.pipes p.d0 p.e0 (-1)) p.d1 p.e1 (-1)) p.d2 p.e2 (-1))}):=hU ((HL_14.out.setPi SPi_14.out).put HK_14.out noWork hp)
 have HE_15:=pK hp HE_14
 have HK_15:Hid (W15.heap[b]? =some (.cells (kcells {y with pi:=v22} {k with pipes:=(pcount (pcount (pcount k.pipes p.d0 p.e0 (-1)) p.d1 p.e1 (-1)) p.d2 p.e2 (-1))}) 178 (0,0))):=pA hp
 have HQ_15:=pT hp HK_14 HQ_14
 have HE2_15:=pT hp HK_14 HE2_14
 have SPi_15:=hU (SPi_14.out.put HK_14.out hp (by decide))
 clear hp
 clear HK_14 HQ_14 HE2_14 HE_14 HL_14 SPi_14
 refine nt hK ?_
 clear hK K
 try clear hS
 (try simp only [acts])
 refine doneL (by kernel_rfl) (NoPanic.normal ?_) _
 try clear hS
 clear SPi_15
 clear HE2_15
 repeat' (first|go_values|go_skip|go_guarded|(with_reducible refine wg ?_)|go_step|go_upon)
 rw [rounds_succ]
 obtain ⟨abE3,hab,hab1E3⟩:=nb0 HE_15
 have habKE3:=nlt HK_15 hab
 have habQE3:=nlt HQ_15 hab
 obtain ⟨W16,hWn,hba,HE3_16⟩:=nb1 (.cells #[.int .i64 p.d3,.bool p.e3] 162) hab
 have HK_16:=nB hba HK_15
 have HQ_16:=nB hba HQ_15
 have HE_16:=nE hba HE_15
 have HL_16:=nL hba HL_15
 clear HK_15 HQ_15 HE_15 HL_15
 clear hba
 repeat' (first
  |(rw [hWn];clear hWn)
  |go_values|go_skip|go_guarded|(with_reducible refine wg ?_)|go_step|go_upon)
 try rw [hab]
 clear hab
 have hpb3:PB 1000004 (pcount (pcount (pcount (pcount k.pipes p.d0 p.e0 (-1)) p.d1 p.e1 (-1)) p.d2 p.e2 (-1)) p.d3 p.e3 (-1)):=pcount_PB hpb2 _ _ _ (by decide) (by decide)
 have hpl3:(pcount (pcount (pcount (pcount k.pipes p.d0 p.e0 (-1)) p.d1 p.e1 (-1)) p.d2 p.e2 (-1)) p.d3 p.e3 (-1)).length≤1000000:=by rw [pcount_length];exact hpl2
 refine wp_region_noPanic ?_
 refine go0 (S:=fun W=> (W.cell? ⟨b,4,none⟩=some v22)∧(W.cell? ⟨abE3,0,none⟩=some (.int .i64 p.d3))∧(W.cell? ⟨abE3,1,none⟩=some (.bool p.e3))) [11] (⟨hcell HK_16.out 4,hcell HE3_16.out 0,hcell HE3_16.out 1⟩) fun hS=> ?_
 obtain ⟨W17,hWd⟩:=exW W16.drew
 have HK_17:=dB hWd HK_16
 have HQ_17:=dB hWd HQ_16
 have HE3_17:=dB hWd HE3_16
 have HE_17:=dE hWd HE_16
 have HL_17:=dL hWd HL_16
 rw [hWd] at hS ⊢
 clear hWd
 clear HK_16 HQ_16 HE3_16 HE_16 HL_16
 refine tp 0 ?_;try simp only [acts]
 refine tp 1 ?_;try simp only [acts]
 refine tp 2 ?_;try simp only [acts]
 refine tp 3 ?_;try simp only [acts]
 refine tp 4 ?_;try simp only [acts]
 refine tl 5 ?_;try simp only [acts]
 refine tl 6 ?_;try simp only [acts]
 refine ro 7 fun K hK=> ?_
 refine want rfl ?_
 go_simp
 refine (PCount v22 (pcount (pcount (pcount k.pipes p.d0 p.e0 (-1)) p.d1 p.e1 (-1)) p.d2 p.e2 (-1)) p.d3 p.e3 (-1) _ HL_17.out.pi (by omega) (by decide) (hpb2.big (by decide))).mono ?_
 rintro er W18 ⟨v23,rfl,hpi,hb⟩
 have HK_18:=nB hb HK_17
 have HQ_18:=nB hb HQ_17
 have HE3_18:=nB hb HE3_17
 have HE_18:=nE hb HE_17
 have HL_18:=nL hb HL_17
 clear HK_17 HQ_17 HE3_17 HE_17 HL_17
 clear hb
 have SPi_18:=hU hpi
 dsimp only
 try clear hS
 refine nx hK (⟨hcell HK_18.out 4,hcell HE3_18.out 0,hcell HE3_18.out 1⟩) fun hS=> ?_
 clear hK K
 (try simp only [acts])
 refine tp 8 ?_;try simp only [acts]
 refine tp 9 ?_;try simp only [acts]
 refine tp 10 ?_;try simp only [acts]
 refine ro 11 fun K hK=> ?_
 refine want rfl ?_
 refine wp_store1 (v:=v23) (off:=4) (new:=kcells {y with pi:=v23} {k with pipes:=(pcount (pcount (pcount (pcount k.pipes p.d0 p.e0 (-1)) p.d1 p.e1 (-1)) p.d2 p.e2 (-1)) p.d3 p.e3 (-1))}) rfl rfl rfl oneSPipe HK_18.out SPi_18.out.vcells SPi_18.out.vone (show 4 + 1≤17 by decide) rfl ?_
 intro W19 hp
 have HL_19:Hid (LayAt W19 {y with pi:=v23} bs {k with pipes:=(pcount (pcount (pcount (pcount k.pipes p.d0 p.e0 (-1)) p.d1 p.e1 (-1)) p.d2 p.e2 (-1)) p.d3 p.e3 (-1))}):=hU ((HL_18.out.setPi SPi_18.out).put HK_18.out noWork hp)
 have HE_19:=pK hp HE_18
 have HK_19:Hid (W19.heap[b]? =some (.cells (kcells {y with pi:=v23} {k with pipes:=(pcount (pcount (pcount (pcount k.pipes p.d0 p.e0 (-1)) p.d1 p.e1 (-1)) p.d2 p.e2 (-1)) p.d3 p.e3 (-1))}) 178 (0,0))):=pA hp
 have HQ_19:=pT hp HK_18 HQ_18
 have HE3_19:=pT hp HK_18 HE3_18
 have SPi_19:=hU (SPi_18.out.put HK_18.out hp (by decide))
 clear hp
 clear HK_18 HQ_18 HE3_18 HE_18 HL_18 SPi_18
 refine nt hK ?_
 clear hK K
 try clear hS
 (try simp only [acts])
 refine doneL (by kernel_rfl) (NoPanic.normal ?_) _
 try clear hS
 clear SPi_19
 clear HE3_19
 repeat' (first|go_values|go_skip|go_guarded|(with_reducible refine wg ?_)|go_step|go_upon)
 rw [rounds_succ]
 repeat' (first
  |(refine wpList_store (t:=163) (v:=.agg #[.int .i64 0,.bool false,.int .i64 0,.bool false,.int .i64 0,.bool false,.int .i64 0,.bool false]) (off:=14) (new:=({p with d0:=0,e0:=false,d1:=0,e1:=false,d2:=0,e2:=false,d3:=0,e3:=false}:Proc).cells) rfl rfl rfl rfl aggFds.size HQ_19.out rfl (show 14 + 8≤26 by decide) onesF rfl ?_;intro W20 hp
    have HE_20:=pE hp HE_19
    have HL_20:Hid (LayAt W20 {y with pi:=v23} bs {k with pipes:=(pcount (pcount (pcount (pcount k.pipes p.d0 p.e0 (-1)) p.d1 p.e1 (-1)) p.d2 p.e2 (-1)) p.d3 p.e3 (-1))}):=hU (HL_19.out.putProc (HL_19.out.p.putOff hoffQ hp) HQ_19.out hp)
    have HQ_20:=pA hp
    have HK_20:=pT hp HQ_19 HK_19
    clear hp
    clear HK_19 HQ_19 HE_19 HL_19)
  |go_values|go_skip|go_guarded|(with_reducible refine wg ?_)|go_step|go_upon)
 refine wp_region_noPanic ?_
 refine go0 (S:=fun W=> (W.cell? ⟨b,5,none⟩=some (.int .i64 k.hs))∧(W.cell? ⟨b,6,none⟩=some y.h)∧(W.cell? ⟨b,1,none⟩=some y.t)∧(W.cell? ⟨b,2,none⟩=some (.int .i64 k.t.left))∧(W.cell? ⟨b,3,none⟩=some y.s)) [27,31,35] (⟨hcell HK_20.out 5,hcell HK_20.out 6,hcell HK_20.out 1,hcell HK_20.out 2,hcell HK_20.out 3⟩) fun hS=> ?_
 obtain ⟨W21,hWd⟩:=exW W20.drew
 have HK_21:=dB hWd HK_20
 have HQ_21:=dB hWd HQ_20
 have HE_21:=dE hWd HE_20
 have HL_21:=dL hWd HL_20
 rw [hWd] at hS ⊢
 clear hWd
 clear HK_20 HQ_20 HE_20 HL_20
 refine tp 0 ?_;try simp only [acts]
 refine tp 1 ?_;try simp only [acts]
 refine tp 2 ?_;try simp only [acts]
 refine tp 3 ?_;try simp only [acts]
 refine tp 4 ?_;try simp only [acts]
 refine tp 5 ?_;try simp only [acts]
 refine tp 6 ?_;try simp only [acts]
 refine tl 7 ?_;try simp only [acts]
 refine tp 8 ?_;try simp only [acts]
 refine tp 10 ?_;try simp only [acts]
 refine tp 11 ?_;try simp only [acts]
 refine tp 12 ?_;try simp only [acts]
 refine tp 13 ?_;try simp only [acts]
 refine tl 14 ?_;try simp only [acts]
 refine tp 15 ?_;try simp only [acts]
 refine tp 17 ?_;try simp only [acts]
 refine tp 18 ?_;try simp only [acts]
 refine tp 19 ?_;try simp only [acts]
 refine tp 20 ?_;try simp only [acts]
 refine tl 21 ?_;try simp only [acts]
 refine tp 22 ?_;try simp only [acts]
 refine ro 9 fun K hK=> ?_
 refine want rfl ?_
 go_simp
 refine (HDrop y.h k.hs k.h pid _ HL_21.out.h (by omega)).mono ?_
 rintro er W22 ⟨u9,rfl,hsh,hb⟩
 have HK_22:=nB hb HK_21
 have HQ_22:=nB hb HQ_21
 have HE_22:=nE hb HE_21
 have HL_22:=nL hb HL_21
 clear HK_21 HQ_21 HE_21 HL_21
 clear hb
 have SH_22:=hU hsh
 dsimp only
 try clear hS
 refine nx hK (⟨hcell HK_22.out 5,hcell HK_22.out 6,hcell HK_22.out 1,hcell HK_22.out 2,hcell HK_22.out 3⟩) fun hS=> ?_
 clear hK K
 (try simp only [acts])
 refine ro 16 fun K hK=> ?_
 refine want rfl ?_
 go_simp
 refine (TDrop _ k.t pid _ ⟨y.t,rfl,HL_22.out.t⟩ (by omega)).mono ?_
 rintro er W23 ⟨v16,rfl,⟨u16,rfl,ht16⟩,hb⟩
 have HK_23:=nB hb HK_22
 have HQ_23:=nB hb HQ_22
 have HE_23:=nE hb HE_22
 have HL_23:=nL hb HL_22
 have SH_23:=hU (SH_22.out.below hb)
 clear HK_22 HQ_22 HE_22 HL_22 SH_22
 clear hb
 have ST_23:=hU ht16
 dsimp only
 try clear hS
 refine nx hK (⟨hcell HK_23.out 5,hcell HK_23.out 6,hcell HK_23.out 1,hcell HK_23.out 2,hcell HK_23.out 3⟩) fun hS=> ?_
 clear hK K
 (try simp only [acts])
 refine ro 23 fun K hK=> ?_
 refine want rfl ?_
 go_simp
 refine (SDrop y.s k.s pid _ HL_23.out.s (by omega)).mono ?_
 rintro er W24 ⟨vs9,rfl,ho,hb⟩
 have HK_24:=nB hb HK_23
 have HQ_24:=nB hb HQ_23
 have HE_24:=nE hb HE_23
 have HL_24:=nL hb HL_23
 have SH_24:=hU (SH_23.out.below hb)
 have ST_24:=hU (ST_23.out.below hb)
 clear HK_23 HQ_23 HE_23 HL_23 SH_23 ST_23
 clear hb
 have SS_24:=hU (KR.Own.sl szAlarm ho)
 dsimp only
 try clear hS
 refine nx hK (⟨hcell HK_24.out 5,hcell HK_24.out 6,hcell HK_24.out 1,hcell HK_24.out 2,hcell HK_24.out 3⟩) fun hS=> ?_
 clear hK K
 (try simp only [acts])
 refine tp 24 ?_;try simp only [acts]
 refine tp 25 ?_;try simp only [acts]
 refine tp 26 ?_;try simp only [acts]
 refine ro 27 fun K hK=> ?_
 refine want rfl ?_
 refine wp_store (v:=.agg #[.int .i64 k.hs,u9]) (off:=5) (new:=kcells {y with pi:=v23,h:=u9} {k with pipes:=count4 k.pipes p (-1),h:=hdrop k.h pid}) rfl rfl rfl aggHeap.size HK_24.out rfl (show 5 + 2≤17 by decide) (onesH SH_24.out) rfl ?_
 intro W25 hp
 have HL_25:Hid (LayAt W25 {y with pi:=v23,h:=u9} bs {k with pipes:=count4 k.pipes p (-1),h:=hdrop k.h pid}):=hU ((HL_24.out.setH SH_24.out).put HK_24.out noWork hp)
 have HE_25:=pK hp HE_24
 have HK_25:Hid (W25.heap[b]? =some (.cells (kcells {y with pi:=v23,h:=u9} {k with pipes:=count4 k.pipes p (-1),h:=hdrop k.h pid}) 178 (0,0))):=pA hp
 have HQ_25:=pT hp HK_24 HQ_24
 have SH_25:=hU (SH_24.out.put HK_24.out hp (by decide))
 have ST_25:=hU (ST_24.out.put HK_24.out hp (by decide))
 have SS_25:=hU (SS_24.out.put HK_24.out hp (by decide))
 clear hp
 clear HK_24 HQ_24 HE_24 HL_24 SH_24 ST_24 SS_24
 refine nt hK ?_
 clear hK K
 try clear hS
 (try simp only [acts])
 refine tp 28 ?_;try simp only [acts]
 refine tp 29 ?_;try simp only [acts]
 refine tp 30 ?_;try simp only [acts]
 refine ro 31 fun K hK=> ?_
 refine want rfl ?_
 refine wp_store (v:=.agg #[u16,.int .i64 (tdrop k.t pid).left]) (off:=1) (new:=kcells {y with pi:=v23,h:=u9,t:=u16} {k with pipes:=count4 k.pipes p (-1),h:=hdrop k.h pid,t:=tdrop k.t pid}) rfl rfl rfl aggTurn.size HK_25.out rfl (show 1 + 2≤17 by decide) (onesT ST_25.out) rfl ?_
 intro W26 hp
 have HL_26:Hid (LayAt W26 {y with pi:=v23,h:=u9,t:=u16} bs {k with pipes:=count4 k.pipes p (-1),h:=hdrop k.h pid,t:=tdrop k.t pid}):=hU ((HL_25.out.setT ST_25.out).put HK_25.out noWork hp)
 have HE_26:=pK hp HE_25
 have HK_26:Hid (W26.heap[b]? =some (.cells (kcells {y with pi:=v23,h:=u9,t:=u16} {k with pipes:=count4 k.pipes p (-1),h:=hdrop k.h pid,t:=tdrop k.t pid}) 178 (0,0))):=pA hp
 have HQ_26:=pT hp HK_25 HQ_25
 have SH_26:=hU (SH_25.out.put HK_25.out hp (by decide))
 have ST_26:=hU (ST_25.out.put HK_25.out hp (by decide))
 have SS_26:=hU (SS_25.out.put HK_25.out hp (by decide))
 clear hp
 clear HK_25 HQ_25 HE_25 HL_25 SH_25 ST_25 SS_25
 refine nt hK ?_
 clear hK K
 try clear hS
 (try simp only [acts])
 refine tp 32 ?_;try simp only [acts]
 refine tp 33 ?_;try simp only [acts]
 refine tp 34 ?_;try simp only [acts]
 refine ro 35 fun K hK=> ?_
 refine want rfl ?_
 refine wp_store1 (v:=vs9) (off:=3) (new:=kcells {y with pi:=v23,h:=u9,t:=u16,s:=vs9} {k with pipes:=count4 k.pipes p (-1),h:=hdrop k.h pid,t:=tdrop k.t pid,s:=sdrop k.s pid}) rfl rfl rfl oneSAlarm HK_26.out SS_26.out.vcells SS_26.out.vone (show 3 + 1≤17 by decide) rfl ?_
 intro W27 hp
 have HL_27:Hid (LayAt W27 {y with pi:=v23,h:=u9,t:=u16,s:=vs9} bs {k with pipes:=count4 k.pipes p (-1),h:=hdrop k.h pid,t:=tdrop k.t pid,s:=sdrop k.s pid}):=hU ((HL_26.out.setS SS_26.out).put HK_26.out noWork hp)
 have HE_27:=pK hp HE_26
 have HK_27:Hid (W27.heap[b]? =some (.cells (kcells {y with pi:=v23,h:=u9,t:=u16,s:=vs9} {k with pipes:=count4 k.pipes p (-1),h:=hdrop k.h pid,t:=tdrop k.t pid,s:=sdrop k.s pid}) 178 (0,0))):=pA hp
 have HQ_27:=pT hp HK_26 HQ_26
 have SH_27:=hU (SH_26.out.put HK_26.out hp (by decide))
 have ST_27:=hU (ST_26.out.put HK_26.out hp (by decide))
 have SS_27:=hU (SS_26.out.put HK_26.out hp (by decide))
 clear hp
 clear HK_26 HQ_26 HE_26 HL_26 SH_26 ST_26 SS_26
 refine nt hK ?_
 clear hK K
 try clear hS
 (try simp only [acts])
 refine doneL (by kernel_rfl) (NoPanic.normal ?_) _
 try clear hS
 clear SH_27
 clear ST_27
 clear SS_27
 have kP2:W27.cell? ⟨b,0,none⟩=some y.p:=hcell HK_27.out 0
 repeat' (first
  |go_values|go_skip|go_guarded|(with_reducible refine wg ?_)|go_step|go_upon)
 have hQ11:=hlt HQ_27.out
 refine (TAdopt y.p k.p pid 1 _ HL_27.out.p (by omega)).mono ?_
 rintro er W28 ⟨va,rfl,ho,hb⟩
 have hoffA:=Own.off ho hQ11
 have HK_28:=nB hb HK_27
 have HQ_28:=nB hb HQ_27
 have HE_28:=nE hb HE_27
 have HL_28:=nL hb HL_27
 clear HK_27 HQ_27 HE_27 HL_27
 have SA_28:=hU (KR.Own.sl szProc ho)
 clear hb ho hQ11 kP2
 dsimp only
 obtain ⟨l,hla⟩:∃ l,adopt k.p pid 1=l:=⟨_,rfl⟩
 rw [hla] at SA_28 hoffA HEND
 have hll:l.length=k.p.length:=by rw [← hla];exact List.length_map _
 have hlb:l.length≤1000000:=by omega
 clear hla hll
 repeat' (first
  |(refine wpList_store1 (t:=42) (v:=va) (off:=0) (new:=kcells {y with pi:=v23,h:=u9,t:=u16,s:=vs9,p:=va} {k with pipes:=count4 k.pipes p (-1),h:=hdrop k.h pid,t:=tdrop k.t pid,s:=sdrop k.s pid,p:=l}) rfl rfl rfl rfl oneSProc HK_28.out SA_28.out.vcells SA_28.out.vone (show 0 + 1≤17 by decide) rfl ?_;intro W29 hp
    have HL_29:Hid (LayAt W29 {y with pi:=v23,h:=u9,t:=u16,s:=vs9,p:=va} bs {k with pipes:=count4 k.pipes p (-1),h:=hdrop k.h pid,t:=tdrop k.t pid,s:=sdrop k.s pid,p:=l}):=hU ((HL_28.out.setP SA_28.out).put HK_28.out noWork hp)
    have HE_29:=pK hp HE_28
    have HK_29:Hid (W29.heap[b]? =some (.cells (kcells {y with pi:=v23,h:=u9,t:=u16,s:=vs9,p:=va} {k with pipes:=count4 k.pipes p (-1),h:=hdrop k.h pid,t:=tdrop k.t pid,s:=sdrop k.s pid,p:=l}) 178 (0,0))):=pA hp
    have HQ_29:=pT hp HK_28 HQ_28
    have SA_29:=hU (SA_28.out.put HK_28.out hp (by decide))
    clear hp
    clear HK_28 HQ_28 HE_28 HL_28 SA_28)
  |go_values|go_skip|go_guarded|(with_reducible refine wg ?_)|go_step|go_upon)
 clear SA_29
 obtain ⟨q,hq⟩:∃ q,(find l p.par).getD Proc.zero=q:=⟨_,rfl⟩
 obtain ⟨f,hf⟩:∃ f,(find l p.par).isSome=f:=⟨_,rfl⟩
 have hcond:((find l p.par).map (fun q=> q.st==4)).getD true=(!f||q.st==4):=by rw [← hq,← hf];cases find l p.par <;> rfl
 rw [hcond] at HEND
 have HQF:Hid (∀ W,SlP W va l→Calls Tryz.prog 123 #[va,.int .i64 p.par] W (Gives (.tuple #[.agg q.cells,.bool f]) W)):=hU (fun W hW=> by rw [← hq,← hf];exact TFind va l p.par W hW)
 clear hcond hq hf
 refine wp_region_noPanic ?_
 refine go0 (S:=fun W=> (W.cell? ⟨b,0,none⟩=some va)∧(W.cell? ⟨abQ,1,none⟩=some (.int .i64 p.par))) [12] (⟨hcell HK_29.out 0,hcell HQ_29.out 1⟩) fun hS=> ?_
 obtain ⟨W30,hWd⟩:=exW W29.drew
 have HK_30:=dB hWd HK_29
 have HQ_30:=dB hWd HQ_29
 have HE_30:=dE hWd HE_29
 have HL_30:=dL hWd HL_29
 rw [hWd] at hS ⊢
 clear hWd
 clear HK_29 HQ_29 HE_29 HL_29
 refine tp 0 ?_;try simp only [acts]
 refine tp 1 ?_;try simp only [acts]
 refine tp 2 ?_;try simp only [acts]
 refine tp 3 ?_;try simp only [acts]
 refine tl 4 ?_;try simp only [acts]
 refine tp 5 ?_;try simp only [acts]
 refine tl 6 ?_;try simp only [acts]
 refine twoL (i:=7) (j:=11) (by kernel_rfl) rfl rfl (fun K hK=> ?_) (fun K hK=> ?_)
 refine want rfl ?_
 go_simp
 refine (HQF.out _ HL_30.out.p).mono ?_
 rintro er W31 ⟨rfl,hb⟩
 have HK_31:=nB hb HK_30
 have HQ_31:=nB hb HQ_30
 have HE_31:=nE hb HE_30
 have HL_31:=nL hb HL_30
 clear HK_30 HQ_30 HE_30 HL_30
 clear hb
 dsimp only
 try clear hS
 refine nx hK (⟨hcell HK_31.out 0,hcell HQ_31.out 1⟩) fun hS=> ?_
 clear hK K
 (try simp only [acts])
 refine tp 8 ?_;try simp only [acts]
 refine tp 9 ?_;try simp only [acts]
 refine tp 10 ?_;try simp only [acts]
 refine ro 11 fun K hK=> ?_
 obtain ⟨abR,hab,hab1⟩:=nb0 HE_31
 have habK:=nlt HK_31 hab
 have habQ:=nlt HQ_31 hab
 have hoffR:=HL_31.out.p.offNew (Nat.le_of_eq hab)
 go_simp
 obtain ⟨W32,hWn,hba,HR_32⟩:=nb1 (.cells #[.int .i64 0,.int .i64 0,.int .i64 0,.int .u32 0,.int .u32 0,.int .u32 0,.int .u32 0,.int .u32 0,.int .u32 0,.int .u32 0,.int .u32 0,.int .u32 0,.string ⟨#[]⟩,.int .i64 0,.int .i64 0,.bool false,.int .i64 0,.bool false,.int .i64 0,.bool false,.int .i64 0,.bool false,.int .u32 0,.int .u32 0,.int .u32 0,.int .u32 0] 167) hab
 rw [hWn]
 clear hWn
 have HK_32:=nB hba HK_31
 have HQ_32:=nB hba HQ_31
 have HE_32:=nE hba HE_31
 have HL_32:=nL hba HL_31
 clear HK_31 HQ_31 HE_31 HL_31
 clear hba
 try rw [hab]
 clear hab
 try clear hS
 refine nx hK (⟨hcell HK_32.out 0,hcell HQ_32.out 1⟩) fun hS=> ?_
 clear hK K
 (try simp only [acts])
 rotate_left
 obtain ⟨abR,hab,hab1⟩:=nb0 HE_30
 have habK:=nlt HK_30 hab
 have habQ:=nlt HQ_30 hab
 have hoffR:=HL_30.out.p.offNew (Nat.le_of_eq hab)
 go_simp
 obtain ⟨W31,hWn,hba,HR_31⟩:=nb1 (.cells #[.int .i64 0,.int .i64 0,.int .i64 0,.int .u32 0,.int .u32 0,.int .u32 0,.int .u32 0,.int .u32 0,.int .u32 0,.int .u32 0,.int .u32 0,.int .u32 0,.string ⟨#[]⟩,.int .i64 0,.int .i64 0,.bool false,.int .i64 0,.bool false,.int .i64 0,.bool false,.int .i64 0,.bool false,.int .u32 0,.int .u32 0,.int .u32 0,.int .u32 0] 167) hab
 rw [hWn]
 clear hWn
 have HK_31:=nB hba HK_30
 have HQ_31:=nB hba HQ_30
 have HE_31:=nE hba HE_30
 have HL_31:=nL hba HL_30
 clear HK_30 HQ_30 HE_30 HL_30
 clear hba
 try rw [hab]
 clear hab
 try clear hS
 refine nx hK (⟨hcell HK_31.out 0,hcell HQ_31.out 1⟩) fun hS=> ?_
 clear hK K
 (try simp only [acts])
 refine ro 7 fun K hK=> ?_
 refine want rfl ?_
 go_simp
 refine (HQF.out _ HL_31.out.p).mono ?_
 rintro er W32 ⟨rfl,hb⟩
 have HK_32:=nB hb HK_31
 have HQ_32:=nB hb HQ_31
 have HR_32:=nB hb HR_31
 have HE_32:=nE hb HE_31
 have HL_32:=nL hb HL_31
 clear HK_31 HQ_31 HR_31 HE_31 HL_31
 clear hb
 dsimp only
 try clear hS
 refine nx hK (⟨hcell HK_32.out 0,hcell HQ_32.out 1⟩) fun hS=> ?_
 clear hK K
 (try simp only [acts])
 refine tp 8 ?_;try simp only [acts]
 refine tp 9 ?_;try simp only [acts]
 refine tp 10 ?_;try simp only [acts]
 all_goals
  refine ro 12 fun K hK=> ?_
  refine want rfl ?_
  refine wp_store (v:=.agg q.cells) (off:=0) (new:=q.cells) rfl rfl rfl aggProc.size HR_32.out rfl (show 0 + 26≤26 by decide) (onesProc q) rfl ?_
  intro W33 hp
  have HE_33:=pE hp HE_32
  have HL_33:Hid (LayAt W33 {y with pi:=v23,h:=u9,t:=u16,s:=vs9,p:=va} bs {k with pipes:=count4 k.pipes p (-1),h:=hdrop k.h pid,t:=tdrop k.t pid,s:=sdrop k.s pid,p:=l}):=hU (HL_32.out.putProc (HL_32.out.p.putOff hoffR hp) HR_32.out hp)
  have HR_33:=pA hp
  have HK_33:=pT hp HR_32 HK_32
  have HQ_33:=pO hp HQ_32
  clear hp
  clear HK_32 HQ_32 HR_32 HE_32 HL_32
  refine nt hK ?_
  clear hK K
  try clear hS
  (try simp only [acts])
  refine ro 13 fun K hK=> ?_
  go_simp
  refine nb hK ?_
  clear hK K
  (try simp only [acts])
  refine doneL (by kernel_rfl) (NoPanic.normal ?_) _
  try clear hS
  have kP3:W33.cell? ⟨b,0,none⟩=some va:=hcell HK_33.out 0
  have kR2:W33.cell? ⟨abR,2,none⟩=some (.int .i64 q.st):=hcell HR_33.out 2
  cases f
  · have HE2:=HEND.out
    rw [if_pos (by rfl)] at HE2
    clear HEND
    repeat' (first
     |go_values|go_skip|go_guarded|(with_reducible refine wg ?_)|go_step|go_upon)
    refine (TRemove va l pid _ HL_33.out.p (by omega)).mono ?_
    rintro er W34 ⟨vz,rfl,ho,hb⟩
    have HK_34:=nB hb HK_33
    have HQ_34:=nB hb HQ_33
    have HR_34:=nB hb HR_33
    have HE_34:=nE hb HE_33
    have HL_34:=nL hb HL_33
    clear HK_33 HQ_33 HR_33 HE_33 HL_33
    have SZ_34:=hU (KR.Own.sl szProc ho)
    clear hb ho
    dsimp only
    repeat' (first
     |(refine wpList_store1 (t:=42) (v:=vz) (off:=0) (new:=kcells {y with pi:=v23,h:=u9,t:=u16,s:=vs9,p:=vz} {k with pipes:=count4 k.pipes p (-1),h:=hdrop k.h pid,t:=tdrop k.t pid,s:=sdrop k.s pid,p:=remove l pid}) rfl rfl rfl rfl oneSProc HK_34.out SZ_34.out.vcells SZ_34.out.vone (show 0 + 1≤17 by decide) rfl ?_;intro W35 hp
       have HL_35:Hid (LayAt W35 {y with pi:=v23,h:=u9,t:=u16,s:=vs9,p:=vz} bs {k with pipes:=count4 k.pipes p (-1),h:=hdrop k.h pid,t:=tdrop k.t pid,s:=sdrop k.s pid,p:=remove l pid}):=hU ((HL_34.out.setP SZ_34.out).put HK_34.out noWork hp)
       have HE_35:=pK hp HE_34
       have HK_35:Hid (W35.heap[b]? =some (.cells (kcells {y with pi:=v23,h:=u9,t:=u16,s:=vs9,p:=vz} {k with pipes:=count4 k.pipes p (-1),h:=hdrop k.h pid,t:=tdrop k.t pid,s:=sdrop k.s pid,p:=remove l pid}) 178 (0,0))):=pA hp
       have HQ_35:=pT hp HK_34 HQ_34
       have HR_35:=pT hp HK_34 HR_34
       have SZ_35:=hU (SZ_34.out.put HK_34.out hp (by decide))
       clear hp
       clear HK_34 HQ_34 HR_34 HE_34 HL_34 SZ_34)
     |go_values|go_skip|go_guarded|(with_reducible refine wg ?_)|go_step|go_upon)
    (try simp only [Exit.inBlock,Exit.then]);refine bodyPost_ret (results_none rfl _ _ _) rfl ?_
    rw [HE2]
    exact ⟨⟨_,rfl⟩,⟨_,_,HK_35.out,HL_35.out⟩,HE_35.out⟩
  by_cases h4:q.st=4
  · have HE2:=HEND.out
    rw [if_pos (by simp [h4])] at HE2
    have h4b:(q.st==4)=true:=by simp [h4]
    clear HEND h4
    repeat' (first
     |go_values|go_skip|go_guarded|(with_reducible refine wg ?_)|go_step|go_upon)
    refine (TRemove va l pid _ HL_33.out.p (by omega)).mono ?_
    rintro er W34 ⟨vz,rfl,ho,hb⟩
    have HK_34:=nB hb HK_33
    have HQ_34:=nB hb HQ_33
    have HR_34:=nB hb HR_33
    have HE_34:=nE hb HE_33
    have HL_34:=nL hb HL_33
    clear HK_33 HQ_33 HR_33 HE_33 HL_33
    have SZ_34:=hU (KR.Own.sl szProc ho)
    clear hb ho
    dsimp only
    repeat' (first
     |(refine wpList_store1 (t:=42) (v:=vz) (off:=0) (new:=kcells {y with pi:=v23,h:=u9,t:=u16,s:=vs9,p:=vz} {k with pipes:=count4 k.pipes p (-1),h:=hdrop k.h pid,t:=tdrop k.t pid,s:=sdrop k.s pid,p:=remove l pid}) rfl rfl rfl rfl oneSProc HK_34.out SZ_34.out.vcells SZ_34.out.vone (show 0 + 1≤17 by decide) rfl ?_;intro W35 hp
       have HL_35:Hid (LayAt W35 {y with pi:=v23,h:=u9,t:=u16,s:=vs9,p:=vz} bs {k with pipes:=count4 k.pipes p (-1),h:=hdrop k.h pid,t:=tdrop k.t pid,s:=sdrop k.s pid,p:=remove l pid}):=hU ((HL_34.out.setP SZ_34.out).put HK_34.out noWork hp)
       have HE_35:=pK hp HE_34
       have HK_35:Hid (W35.heap[b]? =some (.cells (kcells {y with pi:=v23,h:=u9,t:=u16,s:=vs9,p:=vz} {k with pipes:=count4 k.pipes p (-1),h:=hdrop k.h pid,t:=tdrop k.t pid,s:=sdrop k.s pid,p:=remove l pid}) 178 (0,0))):=pA hp
       have HQ_35:=pT hp HK_34 HQ_34
       have HR_35:=pT hp HK_34 HR_34
       have SZ_35:=hU (SZ_34.out.put HK_34.out hp (by decide))
       clear hp
       clear HK_34 HQ_34 HR_34 HE_34 HL_34 SZ_34)
     |go_values|go_skip|go_guarded|(with_reducible refine wg ?_)|go_step|go_upon)
    (try simp only [Exit.inBlock,Exit.then]);refine bodyPost_ret (results_none rfl _ _ _) rfl ?_
    rw [HE2]
    exact ⟨⟨_,rfl⟩,⟨_,_,HK_35.out,HL_35.out⟩,HE_35.out⟩
  have HE2:=HEND.out
  rw [if_neg (by simp [h4])] at HE2
  have h4b:(q.st==4)=false:=by simp [h4]
  clear HEND h4
  repeat' (first
   |(refine wpList_store1 (t:=3) (v:=.int .i64 4) (off:=2) (new:=({p with d0:=0,e0:=false,d1:=0,e1:=false,d2:=0,e2:=false,d3:=0,e3:=false,st:=4}:Proc).cells) rfl rfl rfl rfl oneInt HQ_33.out rfl rfl (show 2 + 1≤26 by decide) rfl ?_;intro W34 hp
     have HE_34:=pE hp HE_33
     have HL_34:Hid (LayAt W34 {y with pi:=v23,h:=u9,t:=u16,s:=vs9,p:=va} bs {k with pipes:=count4 k.pipes p (-1),h:=hdrop k.h pid,t:=tdrop k.t pid,s:=sdrop k.s pid,p:=l}):=hU (HL_33.out.putProc (HL_33.out.p.putOff hoffA hp) HQ_33.out hp)
     have HQ_34:=pA hp
     have HK_34:=pT hp HQ_33 HK_33
     have HR_34:=pO hp HR_33
     clear hp
     clear HK_33 HQ_33 HR_33 HE_33 HL_33)
   |(refine wpList_store1 (t:=3) (v:=.int .i64 code) (off:=13) (new:=(over p code).cells) rfl rfl rfl rfl oneInt HQ_34.out rfl rfl (show 13 + 1≤26 by decide) rfl ?_;intro W35 hp
     have HE_35:=pE hp HE_34
     have HL_35:Hid (LayAt W35 {y with pi:=v23,h:=u9,t:=u16,s:=vs9,p:=va} bs {k with pipes:=count4 k.pipes p (-1),h:=hdrop k.h pid,t:=tdrop k.t pid,s:=sdrop k.s pid,p:=l}):=hU (HL_34.out.putProc (HL_34.out.p.putOff hoffA hp) HQ_34.out hp)
     have HQ_35:=pA hp
     have HK_35:=pT hp HQ_34 HK_34
     have HR_35:=pO hp HR_34
     clear hp
     clear HK_34 HQ_34 HR_34 HE_34 HL_34)
   |go_values|go_skip|go_guarded|(with_reducible refine wg ?_)|go_step|go_upon)
  refine wp_region_noPanic ?_
  refine go0 (S:=fun W=> (W.cell? ⟨b,0,none⟩=some va)∧(W.heap[abQ]? =some (.cells (over p code).cells 167 (0,0)))) [11] (⟨hcell HK_35.out 0,HQ_35.out⟩) fun hS=> ?_
  obtain ⟨W36,hWd⟩:=exW W35.drew
  have HK_36:=dB hWd HK_35
  have HQ_36:=dB hWd HQ_35
  have HR_36:=dB hWd HR_35
  have HE_36:=dE hWd HE_35
  have HL_36:=dL hWd HL_35
  rw [hWd] at hS ⊢
  clear hWd
  clear HK_35 HQ_35 HR_35 HE_35 HL_35
  refine tp 0 ?_;try simp only [acts]
  refine tp 1 ?_;try simp only [acts]
  refine tp 2 ?_;try simp only [acts]
  refine tp 3 ?_;try simp only [acts]
  refine tp 4 ?_;try simp only [acts]
  refine tl 5 ?_;try simp only [acts]
  refine tv 6 (.agg (over p code).cells) (fun W hSW=> run_val_load rfl rfl (run_load_whole aggProc hSW.2 rfl)) ?_
  (try simp only [acts])
  refine ro 7 fun K hK=> ?_
  refine want rfl ?_
  go_simp
  refine (TPut va l (over p code) _ HL_36.out.p (by omega)).mono ?_
  rintro er W37 ⟨vz,rfl,ho,hb⟩
  have HK_37:=nB hb HK_36
  have HQ_37:=nB hb HQ_36
  have HR_37:=nB hb HR_36
  have HE_37:=nE hb HE_36
  have HL_37:=nL hb HL_36
  clear HK_36 HQ_36 HR_36 HE_36 HL_36
  clear hb
  have SZ_37:=hU (KR.Own.sl szProc ho)
  dsimp only
  try clear hS
  refine nx hK (⟨hcell HK_37.out 0,HQ_37.out⟩) fun hS=> ?_
  clear hK K
  (try simp only [acts])
  refine tp 8 ?_;try simp only [acts]
  refine tp 9 ?_;try simp only [acts]
  refine tp 10 ?_;try simp only [acts]
  refine ro 11 fun K hK=> ?_
  refine want rfl ?_
  refine wp_store1 (v:=vz) (off:=0) (new:=kcells {y with pi:=v23,h:=u9,t:=u16,s:=vs9,p:=vz} {k with pipes:=count4 k.pipes p (-1),h:=hdrop k.h pid,t:=tdrop k.t pid,s:=sdrop k.s pid,p:=put l (over p code)}) rfl rfl rfl oneSProc HK_37.out SZ_37.out.vcells SZ_37.out.vone (show 0 + 1≤17 by decide) rfl ?_
  intro W38 hp
  have HL_38:Hid (LayAt W38 {y with pi:=v23,h:=u9,t:=u16,s:=vs9,p:=vz} bs {k with pipes:=count4 k.pipes p (-1),h:=hdrop k.h pid,t:=tdrop k.t pid,s:=sdrop k.s pid,p:=put l (over p code)}):=hU ((HL_37.out.setP SZ_37.out).put HK_37.out noWork hp)
  have HE_38:=pK hp HE_37
  have HK_38:Hid (W38.heap[b]? =some (.cells (kcells {y with pi:=v23,h:=u9,t:=u16,s:=vs9,p:=vz} {k with pipes:=count4 k.pipes p (-1),h:=hdrop k.h pid,t:=tdrop k.t pid,s:=sdrop k.s pid,p:=put l (over p code)}) 178 (0,0))):=pA hp
  have HQ_38:=pT hp HK_37 HQ_37
  have HR_38:=pT hp HK_37 HR_37
  have SZ_38:=hU (SZ_37.out.put HK_37.out hp (by decide))
  clear hp
  clear HK_37 HQ_37 HR_37 HE_37 HL_37 SZ_37
  refine nt hK ?_
  clear hK K
  try clear hS
  (try simp only [acts])
  refine doneL (by kernel_rfl) (NoPanic.normal ?_) _
  try clear hS
  repeat' (first|go_values|go_skip|go_guarded|(with_reducible refine wg ?_)|go_step|go_upon)
  (try simp only [Exit.inBlock,Exit.then]);refine bodyPost_ret (results_none rfl _ _ _) rfl ?_
  rw [HE2]
  exact ⟨⟨_,rfl⟩,⟨_,_,HK_38.out,HL_38.out⟩,HE_38.out⟩
end Kn
end Go.Proofs.YtkepkcjjenidgaaGreatDoor
