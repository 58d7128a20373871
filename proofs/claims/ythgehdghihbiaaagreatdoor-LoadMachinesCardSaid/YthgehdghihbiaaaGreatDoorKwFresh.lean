/- work.fresh: a new process. Conditions: as many as Go can hold; numbers are small. -/
import Derived.Test.YthgehdghihbiaaaGreatDoorGWork
set_option linter.unusedVariables false
set_option maxRecDepth 100000
set_option maxHeartbeats 8000000
set_option linter.unusedSimpArgs false
namespace Go.Proofs.YthgehdghihbiaaaGreatDoor
open Go.RowKit KR RegT3
namespace Kn
def PB (B:Int) (l:List Pipe):Prop:=∀ q ∈ l, -B≤q.rd∧q.rd≤B∧ -B≤q.wr∧q.wr≤B
theorem pcount_length (l:List Pipe) (d:Int) (e:Bool) (n:Int):(pcount l d e n).length=l.length:=by
 unfold pcount
 split
 · rfl
 · rw [List.length_modify]
theorem pcount_PB {l:List Pipe} {B:Int} (h:PB B l) (d:Int) (e:Bool) (n:Int) (h0: -1≤n) (h1:n≤1):PB (B + 1) (pcount l d e n):=by
 unfold pcount
 split
 · intro q hq
   have:=h q hq
   omega
 · intro q hq
   rw [List.mem_iff_getElem?] at hq
   obtain ⟨i,hi⟩:=hq
   rw [List.getElem?_modify] at hi
   cases hl:l[i]? with
   |none=> rw [hl] at hi;cases hi
   |some r=>
    have hr:=h r (List.mem_of_getElem? hl)
    rw [hl,Option.map_eq_map,Option.map_some] at hi
    injection hi with hi
    subst hi
    split
    · cases e
      · simp only [Bool.false_eq_true,if_false]
        omega
      · simp only [if_true]
        omega
    · exact ⟨by omega,by omega,by omega,by omega⟩
theorem PB.big {l:List Pipe} {B:Int} (h:PB B l) (hB:B≤4611686018427387904):∀ p ∈ l, -4611686018427387904≤p.rd∧p.rd≤4611686018427387904∧ -4611686018427387904≤p.wr∧p.wr≤4611686018427387904:=fun p hp=> by
 have:=h p hp
 omega
theorem WFresh (b:Nat) (k:Kern) (p:Proc) (w:World) (hk:WorkAt w b k) (hn:k.p.length≤1000000) (ht:k.t.l.length≤1000000) (hpl:k.pipes.length≤1000000) (hpb:PB 1000000 k.pipes) (hhl:k.h.length≤1000000) (hs0: -9223372036854775808≤k.hs) (hs1:k.hs≤9223372036854775807) (hpid:∀ q ∈ k.p,q.pid≤4611686018427387904):
 Calls Tryz.prog 92 #[.pointer (some ⟨b,0,none⟩),.agg p.cells] w (GivesW b (.tuple #[.int .u32 (freshV k),.int .i64 (freshE k)]) (fresh k p) w):=by
 obtain ⟨y,bs,hk0,hl⟩:=hk
 have hbl:=hlt hk0
 obtain ⟨pa,pc,hpa,hpc,_⟩:=hl.p.shape
 obtain ⟨W0,hW0,HK_0,HP_0,HE_0,HL_0,hz0,hzK,hzP⟩:=st1 p.cells 220 hk0 hl
 have kP:W0.cell? ⟨b,0,none⟩=some (.slice pa k.p.length pc):=(show W0.cell? ⟨b,0,none⟩=some y.p from hcell HK_0.out 0).trans (congrArg some hpa)
 have HPA:=hU hpa
 clear hpa
 by_cases h6:6≤k.p.length
 · have h6I:(6:Int)≤(k.p.length:Int):=by omega
   have hv:freshV k=0:=if_pos h6
   have he:freshE k=5:=if_pos h6
   have hf:fresh k p=k:=if_pos h6
   rw [hv,he,hf]
   go_enter Tryz.func92,Tryz.ntmps92
   repeat' (first
    |(rw [hW0];clear hW0)
    |go_values|go_skip|go_guarded|(with_reducible refine wg ?_)|go_step|go_upon)
   go_ret2
   exact ⟨rfl,⟨_,_,HK_0.out,HL_0.out⟩,HE_0.out⟩
 have h6I:¬ (6:Int)≤(k.p.length:Int):=by omega
 go_enter Tryz.func92,Tryz.ntmps92
 repeat' (first
  |(rw [hW0];clear hW0)
  |go_values|go_skip|go_guarded|(with_reducible refine wg ?_)|go_step|go_upon)
 have hnx:=Next (.slice pa k.p.length pc) k.p W0 (by have h:=HL_0.out.p;rw [HPA.out] at h;exact h) hpid
 obtain ⟨pid,hpd⟩:∃ pid,next k.p=pid:=⟨_,rfl⟩
 rw [hpd] at hnx
 have HPD:=hU hpd
 clear hpd kP
 refine hnx.mono ?_
 rintro er W1 ⟨rfl,hb⟩
 have HK_1:=nB hb HK_0
 have HP_1:=nB hb HP_0
 have HE_1:=nE hb HE_0
 have HL_1:=nL hb HL_0
 clear HK_0 HP_0 HE_0 HL_0
 clear hb hnx
 dsimp only
 repeat' (first
  |(refine wpList_store1 (t:=3) (v:=.int .i64 pid) (off:=0) (new:=({p with pid:=pid}:Proc).cells) rfl rfl rfl rfl oneInt HP_1.out rfl rfl (show 0 + 1≤26 by decide) rfl ?_;intro W2 hp
    have HE_2:=pE hp HE_1
    have HL_2:Hid (LayAt W2 y bs k):=hU (hl.kept hk0 noWork HE_2.out)
    have HP_2:=pA hp
    have HK_2:=pT hp HP_1 HK_1
    clear hp
    clear HK_1 HP_1 HE_1 HL_1)
  |(refine wpList_store1 (t:=3) (v:=.int .i64 1) (off:=2) (new:=({p with pid:=pid,st:=1}:Proc).cells) rfl rfl rfl rfl oneInt HP_2.out rfl rfl (show 2 + 1≤26 by decide) rfl ?_;intro W3 hp
    have HE_3:=pE hp HE_2
    have HL_3:Hid (LayAt W3 y bs k):=hU (hl.kept hk0 noWork HE_3.out)
    have HP_3:=pA hp
    have HK_3:=pT hp HP_2 HK_2
    clear hp
    clear HK_2 HP_2 HE_2 HL_2)
  |(refine wpList_store (t:=218) (v:=.agg #[.int .u32 0,.int .u32 0,.int .u32 0,.int .u32 0]) (off:=22) (new:=(born p pid).cells) rfl rfl rfl rfl aggCall.size HP_3.out rfl (show 22 + 4≤26 by decide) (by intro u hu;simp [Value.cells] at hu;subst hu;rfl) rfl ?_;intro W4 hp
    have HE_4:=pE hp HE_3
    have HL_4:Hid (LayAt W4 y bs k):=hU (hl.kept hk0 noWork HE_4.out)
    have HP_4:=pA hp
    have HK_4:=pT hp HP_3 HK_3
    clear hp
    clear HK_3 HP_3 HE_3 HL_3)
  |go_values|go_skip|go_guarded|(with_reducible refine wg ?_)|go_step|go_upon)
 refine wp_region_noPanic ?_
 refine go0 (S:=fun W=> (W.cell? ⟨b,5,none⟩=some (.int .i64 k.hs))∧(W.cell? ⟨b,6,none⟩=some y.h)∧(W.cell? ⟨w.heap.size,0,none⟩=some (.int .i64 pid))) [13] (⟨hcell HK_4.out 5,hcell HK_4.out 6,hcell HP_4.out 0⟩) fun hS=> ?_
 obtain ⟨W5,hWd⟩:=exW W4.drew
 have HK_5:=dB hWd HK_4
 have HP_5:=dB hWd HP_4
 have HE_5:=dE hWd HE_4
 have HL_5:=dL hWd HL_4
 rw [hWd] at hS ⊢
 clear hWd
 clear HK_4 HP_4 HE_4 HL_4
 refine tp 0 ?_;try simp only [acts]
 refine tp 1 ?_;try simp only [acts]
 refine tp 2 ?_;try simp only [acts]
 refine tp 3 ?_;try simp only [acts]
 refine tl 4 ?_;try simp only [acts]
 refine tp 5 ?_;try simp only [acts]
 refine tl 6 ?_;try simp only [acts]
 refine twoL (i:=7) (j:=12) (by kernel_rfl) rfl rfl (fun K hK=> ?_) (fun K hK=> ?_)
 refine want rfl ?_
 go_simp
 refine (HTake y.h k.hs k.h 64 pid _ HL_5.out.h (by decide) hs0 hs1 hhl).mono ?_
 rintro er W6 ⟨u8,at8,rfl,hsh,hb⟩
 have HK_6:=nB hb HK_5
 have HP_6:=nB hb HP_5
 have HE_6:=nE hb HE_5
 have HL_6:=nL hb HL_5
 clear HK_5 HP_5 HE_5 HL_5
 have SH_6:=hU hsh
 clear hb
 dsimp only
 try clear hS
 refine nx hK (⟨hcell HK_6.out 5,hcell HK_6.out 6,hcell HP_6.out 0⟩) fun hS=> ?_
 clear hK K
 (try simp only [acts])
 refine tp 8 ?_;try simp only [acts]
 refine tp 9 ?_;try simp only [acts]
 refine tp 10 ?_;try simp only [acts]
 refine tp 11 ?_;try simp only [acts]
 refine ro 12 fun K hK=> ?_
 obtain ⟨abHb,hab,hab1⟩:=nb0 HE_6
 have habK:=nlt HK_6 hab
 have habP:=nlt HP_6 hab
 go_simp
 obtain ⟨W7,hWn,hba,HHb_7⟩:=nb1 (.cells #[.int .i64 0,.slice none 0 0] 65) hab
 rw [hWn]
 clear hWn
 have HK_7:=nB hba HK_6
 have HP_7:=nB hba HP_6
 have HE_7:=nE hba HE_6
 have HL_7:=nL hba HL_6
 have SH_7:=hU (SH_6.out.below hba)
 clear HK_6 HP_6 HE_6 HL_6 SH_6
 clear hba
 try rw [hab]
 clear hab
 try clear hS
 refine nx hK (⟨hcell HK_7.out 5,hcell HK_7.out 6,hcell HP_7.out 0⟩) fun hS=> ?_
 clear hK K
 (try simp only [acts])
 rotate_left
 obtain ⟨abHb,hab,hab1⟩:=nb0 HE_5
 have habK:=nlt HK_5 hab
 have habP:=nlt HP_5 hab
 go_simp
 obtain ⟨W6,hWn,hba,HHb_6⟩:=nb1 (.cells #[.int .i64 0,.slice none 0 0] 65) hab
 rw [hWn]
 clear hWn
 have HK_6:=nB hba HK_5
 have HP_6:=nB hba HP_5
 have HE_6:=nE hba HE_5
 have HL_6:=nL hba HL_5
 clear HK_5 HP_5 HE_5 HL_5
 clear hba
 try rw [hab]
 clear hab
 try clear hS
 refine nx hK (⟨hcell HK_6.out 5,hcell HK_6.out 6,hcell HP_6.out 0⟩) fun hS=> ?_
 clear hK K
 (try simp only [acts])
 refine ro 7 fun K hK=> ?_
 refine want rfl ?_
 go_simp
 refine (HTake y.h k.hs k.h 64 pid _ HL_6.out.h (by decide) hs0 hs1 hhl).mono ?_
 rintro er W7 ⟨u8,at8,rfl,hsh,hb⟩
 have HK_7:=nB hb HK_6
 have HP_7:=nB hb HP_6
 have HHb_7:=nB hb HHb_6
 have HE_7:=nE hb HE_6
 have HL_7:=nL hb HL_6
 clear HK_6 HP_6 HHb_6 HE_6 HL_6
 have SH_7:=hU hsh
 clear hb
 dsimp only
 try clear hS
 refine nx hK (⟨hcell HK_7.out 5,hcell HK_7.out 6,hcell HP_7.out 0⟩) fun hS=> ?_
 clear hK K
 (try simp only [acts])
 refine tp 8 ?_;try simp only [acts]
 refine tp 9 ?_;try simp only [acts]
 refine tp 10 ?_;try simp only [acts]
 refine tp 11 ?_;try simp only [acts]
 all_goals
  refine ro 13 fun K hK=> ?_
  refine want rfl ?_
  refine wp_store (v:=.agg #[.int .i64 k.hs,u8]) (off:=0) (new:=#[.int .i64 k.hs,u8]) rfl rfl rfl aggHeap.size HHb_7.out rfl (show 0 + 2≤2 by decide) (onesH SH_7.out) rfl ?_
  intro W8 hp
  have HE_8:=pE hp HE_7
  have HL_8:Hid (LayAt W8 y bs k):=hU (hl.kept hk0 noWork HE_8.out)
  have HHb_8:=pA hp
  have HK_8:=pT hp HHb_7 HK_7
  have HP_8:=pT hp HHb_7 HP_7
  have SH_8:=hU (SH_7.out.put HHb_7.out hp (by decide))
  clear hp
  clear HK_7 HP_7 HHb_7 HE_7 HL_7 SH_7
  refine nt hK ?_
  clear hK K
  try clear hS
  (try simp only [acts])
  refine tp 14 ?_;try simp only [acts]
  refine tp 15 ?_;try simp only [acts]
  refine doneL (by kernel_rfl) (NoPanic.normal ?_) _
  try clear hS
  have HTE:=hU (show freshE k=(htakeE k.hs k.h 64 pid).2 by rw [freshE,if_neg h6,HPD.out])
  have HTV:=hU (show freshV k=if (htakeE k.hs k.h 64 pid).2=0 then pid % 4294967296 else 0 by rw [freshV,if_neg h6,HPD.out])
  have HTF:=hU (show fresh k p=if (htakeE k.hs k.h 64 pid).2=0 then {k with h:=(htakeE k.hs k.h 64 pid).1,pipes:=count4 k.pipes p 1,p:=put k.p (born p pid),t:=tadd k.t pid} else k by rw [fresh,if_neg h6,HPD.out])
  generalize (htakeE k.hs k.h 64 pid).1=hl2 at *
  generalize (htakeE k.hs k.h 64 pid).2=er2 at *
  by_cases hz:er2=0
  rotate_left
  · have hzb:(er2 !=0)=true:=by simp [hz]
    repeat' (first|go_values|go_skip|go_guarded|(with_reducible refine wg ?_)|go_step|go_upon)
    go_ret2
    rw [HTE.out,HTV.out,HTF.out,if_neg hz,if_neg hz]
    exact ⟨rfl,⟨_,_,HK_8.out,HL_8.out⟩,HE_8.out⟩
  · subst hz
    repeat' (first
     |(refine wpList_load (t:=65) (v:=.agg #[.int .i64 k.hs,u8]) rfl rfl rfl (run_load_whole aggHeap HHb_8.out rfl) ?_)
     |(refine wpList_store (t:=65) (v:=.agg #[.int .i64 k.hs,u8]) (off:=5) (new:=kcells {y with h:=u8} {k with h:=hl2}) rfl rfl rfl rfl aggHeap.size HK_8.out rfl (show 5 + 2≤17 by decide) (onesH SH_8.out) rfl ?_;intro W9 hp
       have HL_9:Hid (LayAt W9 {y with h:=u8} bs {k with h:=hl2}):=hU ((HL_8.out.setH SH_8.out).put HK_8.out noWork hp)
       have HE_9:=pK hp HE_8
       have HK_9:Hid (W9.heap[b]? =some (.cells (kcells {y with h:=u8} {k with h:=hl2}) 204 (0,0))):=pA hp
       have HP_9:=pT hp HK_8 HP_8
       have HHb_9:=pT hp HK_8 HHb_8
       have SH_9:=hU (SH_8.out.put HK_8.out hp (by decide))
       clear hp
       clear HK_8 HP_8 HHb_8 HE_8 HL_8 SH_8)
     |(refine wpList_load (t:=216) (v:=.agg (fdCells p.d0 p.e0 p.d1 p.e1 p.d2 p.e2 p.d3 p.e3)) rfl rfl rfl (run_load_part aggFds (show _ from HP_9.out) (o:=14) rfl rfl) ?_)
     |go_values|go_skip|go_guarded|(with_reducible refine wg ?_)|go_step|go_upon)
    clear SH_9
    clear HHb_9
    unfold fdCells
    have hx0:=fun W=> idxFd0 p.d0 p.e0 p.d1 p.e1 p.d2 p.e2 p.d3 p.e3 W
    have hx1:=fun W=> idxFd1 p.d0 p.e0 p.d1 p.e1 p.d2 p.e2 p.d3 p.e3 W
    have hx2:=fun W=> idxFd2 p.d0 p.e0 p.d1 p.e1 p.d2 p.e2 p.d3 p.e3 W
    have hx3:=fun W=> idxFd3 p.d0 p.e0 p.d1 p.e1 p.d2 p.e2 p.d3 p.e3 W
    refine wp_loop_rounds 5 ?_
    rw [rounds_succ]
    obtain ⟨abE0,hab,hab1E0⟩:=nb0 HE_9
    have habKE0:=nlt HK_9 hab
    have habPE0:=nlt HP_9 hab
    obtain ⟨W10,hWn,hba,HE0_10⟩:=nb1 (.cells #[.int .i64 p.d0,.bool p.e0] 215) hab
    have HK_10:=nB hba HK_9
    have HP_10:=nB hba HP_9
    have HE_10:=nE hba HE_9
    have HL_10:=nL hba HL_9
    clear HK_9 HP_9 HE_9 HL_9
    clear hba
    repeat' (first
     |(rw [hWn];clear hWn)
     |go_values|go_skip|go_guarded|(with_reducible refine wg ?_)|go_step|go_upon)
    try rw [hab]
    clear hab
    have hpb0:PB 1000001 (pcount k.pipes p.d0 p.e0 1):=pcount_PB hpb _ _ _ (by decide) (by decide)
    have hpl0:(pcount k.pipes p.d0 p.e0 1).length≤1000000:=by rw [pcount_length];exact hpl
    refine wp_region_noPanic ?_
    refine go0 (S:=fun W=> (W.cell? ⟨b,4,none⟩=some y.pi)∧(W.cell? ⟨abE0,0,none⟩=some (.int .i64 p.d0))∧(W.cell? ⟨abE0,1,none⟩=some (.bool p.e0))) [11] (⟨hcell HK_10.out 4,hcell HE0_10.out 0,hcell HE0_10.out 1⟩) fun hS=> ?_
    obtain ⟨W11,hWd⟩:=exW W10.drew
    have HK_11:=dB hWd HK_10
    have HP_11:=dB hWd HP_10
    have HE0_11:=dB hWd HE0_10
    have HE_11:=dE hWd HE_10
    have HL_11:=dL hWd HL_10
    rw [hWd] at hS ⊢
    clear hWd
    clear HK_10 HP_10 HE0_10 HE_10 HL_10
    refine tp 0 ?_;try simp only [acts]
    refine tp 1 ?_;try simp only [acts]
    refine tp 2 ?_;try simp only [acts]
    refine tp 3 ?_;try simp only [acts]
    refine tp 4 ?_;try simp only [acts]
    refine tl 5 ?_;try simp only [acts]
    refine tl 6 ?_;try simp only [acts]
    refine ro 7 fun K hK=> ?_
    refine want rfl ?_
    go_simp
    refine (PCount y.pi k.pipes p.d0 p.e0 1 _ HL_11.out.pi (by omega) (by decide) (hpb.big (by decide))).mono ?_
    rintro er W12 ⟨v20,rfl,hpi,hb⟩
    have HK_12:=nB hb HK_11
    have HP_12:=nB hb HP_11
    have HE0_12:=nB hb HE0_11
    have HE_12:=nE hb HE_11
    have HL_12:=nL hb HL_11
    clear HK_11 HP_11 HE0_11 HE_11 HL_11
    clear hb
    have SPi_12:=hU hpi
    dsimp only
    try clear hS
    refine nx hK (⟨hcell HK_12.out 4,hcell HE0_12.out 0,hcell HE0_12.out 1⟩) fun hS=> ?_
    clear hK K
    (try simp only [acts])
    refine tp 8 ?_;try simp only [acts]
    refine tp 9 ?_;try simp only [acts]
    refine tp 10 ?_;try simp only [acts]
    refine ro 11 fun K hK=> ?_
    refine want rfl ?_
    refine wp_store1 (v:=v20) (off:=4) (new:=kcells {y with h:=u8,pi:=v20} {k with h:=hl2,pipes:=(pcount k.pipes p.d0 p.e0 1)}) rfl rfl rfl oneSPipe HK_12.out SPi_12.out.vcells SPi_12.out.vone (show 4 + 1≤17 by decide) rfl ?_
    intro W13 hp
    have HL_13:Hid (LayAt W13 {y with h:=u8,pi:=v20} bs {k with h:=hl2,pipes:=(pcount k.pipes p.d0 p.e0 1)}):=hU ((HL_12.out.setPi SPi_12.out).put HK_12.out noWork hp)
    have HE_13:=pK hp HE_12
    have HK_13:Hid (W13.heap[b]? =some (.cells (kcells {y with h:=u8,pi:=v20} {k with h:=hl2,pipes:=(pcount k.pipes p.d0 p.e0 1)}) 204 (0,0))):=pA hp
    have HP_13:=pT hp HK_12 HP_12
    have HE0_13:=pT hp HK_12 HE0_12
    have SPi_13:=hU (SPi_12.out.put HK_12.out hp (by decide))
    clear hp
    clear HK_12 HP_12 HE0_12 HE_12 HL_12 SPi_12
    refine nt hK ?_
    clear hK K
    try clear hS
    (try simp only [acts])
    refine doneL (by kernel_rfl) (NoPanic.normal ?_) _
    try clear hS
    clear SPi_13
    clear HE0_13
    repeat' (first|go_values|go_skip|go_guarded|(with_reducible refine wg ?_)|go_step|go_upon)
    rw [rounds_succ]
    obtain ⟨abE1,hab,hab1E1⟩:=nb0 HE_13
    have habKE1:=nlt HK_13 hab
    have habPE1:=nlt HP_13 hab
    obtain ⟨W14,hWn,hba,HE1_14⟩:=nb1 (.cells #[.int .i64 p.d1,.bool p.e1] 215) hab
    have HK_14:=nB hba HK_13
    have HP_14:=nB hba HP_13
    have HE_14:=nE hba HE_13
    have HL_14:=nL hba HL_13
    clear HK_13 HP_13 HE_13 HL_13
    clear hba
    repeat' (first
     |(rw [hWn];clear hWn)
     |go_values|go_skip|go_guarded|(with_reducible refine wg ?_)|go_step|go_upon)
    try rw [hab]
    clear hab
    have hpb1:PB 1000002 (pcount (pcount k.pipes p.d0 p.e0 1) p.d1 p.e1 1):=pcount_PB hpb0 _ _ _ (by decide) (by decide)
    have hpl1:(pcount (pcount k.pipes p.d0 p.e0 1) p.d1 p.e1 1).length≤1000000:=by rw [pcount_length];exact hpl0
    refine wp_region_noPanic ?_
    refine go0 (S:=fun W=> (W.cell? ⟨b,4,none⟩=some v20)∧(W.cell? ⟨abE1,0,none⟩=some (.int .i64 p.d1))∧(W.cell? ⟨abE1,1,none⟩=some (.bool p.e1))) [11] (⟨hcell HK_14.out 4,hcell HE1_14.out 0,hcell HE1_14.out 1⟩) fun hS=> ?_
    obtain ⟨W15,hWd⟩:=exW W14.drew
    have HK_15:=dB hWd HK_14
    have HP_15:=dB hWd HP_14
    have HE1_15:=dB hWd HE1_14
    have HE_15:=dE hWd HE_14
    have HL_15:=dL hWd HL_14
    rw [hWd] at hS ⊢
    clear hWd
    clear HK_14 HP_14 HE1_14 HE_14 HL_14
    refine tp 0 ?_;try simp only [acts]
    refine tp 1 ?_;try simp only [acts]
    refine tp 2 ?_;try simp only [acts]
    refine tp 3 ?_;try simp only [acts]
    refine tp 4 ?_;try simp only [acts]
    refine tl 5 ?_;try simp only [acts]
    refine tl 6 ?_;try simp only [acts]
    refine ro 7 fun K hK=> ?_
    refine want rfl ?_
    go_simp
    refine (PCount v20 (pcount k.pipes p.d0 p.e0 1) p.d1 p.e1 1 _ HL_15.out.pi (by omega) (by decide) (hpb0.big (by decide))).mono ?_
    rintro er W16 ⟨v21,rfl,hpi,hb⟩
    have HK_16:=nB hb HK_15
    have HP_16:=nB hb HP_15
    have HE1_16:=nB hb HE1_15
    have HE_16:=nE hb HE_15
    have HL_16:=nL hb HL_15
    clear HK_15 HP_15 HE1_15 HE_15 HL_15
    clear hb
    have SPi_16:=hU hpi
    dsimp only
    try clear hS
    refine nx hK (⟨hcell HK_16.out 4,hcell HE1_16.out 0,hcell HE1_16.out 1⟩) fun hS=> ?_
    clear hK K
    (try simp only [acts])
    refine tp 8 ?_;try simp only [acts]
    refine tp 9 ?_;try simp only [acts]
    refine tp 10 ?_;try simp only [acts]
    refine ro 11 fun K hK=> ?_
    refine want rfl ?_
    refine wp_store1 (v:=v21) (off:=4) (new:=kcells {y with h:=u8,pi:=v21} {k with h:=hl2,pipes:=(pcount (pcount k.pipes p.d0 p.e0 1) p.d1 p.e1 1)}) rfl rfl rfl oneSPipe HK_16.out SPi_16.out.vcells SPi_16.out.vone (show 4 + 1≤17 by decide) rfl ?_
    intro W17 hp
    have HL_17:Hid (LayAt W17 {y with h:=u8,pi:=v21} bs {k with h:=hl2,pipes:=(pcount (pcount k.pipes p.d0 p.e0 1) p.d1 p.e1 1)}):=hU ((HL_16.out.setPi SPi_16.out).put HK_16.out noWork hp)
    have HE_17:=pK hp HE_16
    have HK_17:Hid (W17.heap[b]? =some (.cells (kcells {y with h:=u8,pi:=v21} {k with h:=hl2,pipes:=(pcount (pcount k.pipes p.d0 p.e0 1) p.d1 p.e1 1)}) 204 (0,0))):=pA hp
    have HP_17:=pT hp HK_16 HP_16
    have HE1_17:=pT hp HK_16 HE1_16
    have SPi_17:=hU (SPi_16.out.put HK_16.out hp (by decide))
    clear hp
    clear HK_16 HP_16 HE1_16 HE_16 HL_16 SPi_16
    refine nt hK ?_
    clear hK K
    try clear hS
    (try simp only [acts])
    refine doneL (by kernel_rfl) (NoPanic.normal ?_) _
    try clear hS
    clear SPi_17
    clear HE1_17
    repeat' (first|go_values|go_skip|go_guarded|(with_reducible refine wg ?_)|go_step|go_upon)
    rw [rounds_succ]
    obtain ⟨abE2,hab,hab1E2⟩:=nb0 HE_17
    have habKE2:=nlt HK_17 hab
    have habPE2:=nlt HP_17 hab
    obtain ⟨W18,hWn,hba,HE2_18⟩:=nb1 (.cells #[.int .i64 p.d2,.bool p.e2] 215) hab
    have HK_18:=nB hba HK_17
    have HP_18:=nB hba HP_17
    have HE_18:=nE hba HE_17
    have HL_18:=nL hba HL_17
    clear HK_17 HP_17 HE_17 HL_17
    clear hba
    repeat' (first
     |(rw [hWn];clear hWn)
     |go_values|go_skip|go_guarded|(with_reducible refine wg ?_)|go_step|go_upon)
    try rw [hab]
    clear hab
    have hpb2:PB 1000003 (pcount (pcount (pcount k.pipes p.d0 p.e0 1) p.d1 p.e1 1) p.d2 p.e2 1):=pcount_PB hpb1 _ _ _ (by decide) (by decide)
    have hpl2:(pcount (pcount (pcount k.pipes p.d0 p.e0 1) p.d1 p.e1 1) p.d2 p.e2 1).length≤1000000:=by rw [pcount_length];exact hpl1
    refine wp_region_noPanic ?_
    refine go0 (S:=fun W=> (W.cell? ⟨b,4,none⟩=some v21)∧(W.cell? ⟨abE2,0,none⟩=some (.int .i64 p.d2))∧(W.cell? ⟨abE2,1,none⟩=some (.bool p.e2))) [11] (⟨hcell HK_18.out 4,hcell HE2_18.out 0,hcell HE2_18.out 1⟩) fun hS=> ?_
    obtain ⟨W19,hWd⟩:=exW W18.drew
    have HK_19:=dB hWd HK_18
    have HP_19:=dB hWd HP_18
    have HE2_19:=dB hWd HE2_18
    have HE_19:=dE hWd HE_18
    have HL_19:=dL hWd HL_18
    rw [hWd] at hS ⊢
    clear hWd
    clear HK_18 HP_18 HE2_18 HE_18 HL_18
    refine tp 0 ?_;try simp only [acts]
    refine tp 1 ?_;try simp only [acts]
    refine tp 2 ?_;try simp only [acts]
    refine tp 3 ?_;try simp only [acts]
    refine tp 4 ?_;try simp only [acts]
    refine tl 5 ?_;try simp only [acts]
    refine tl 6 ?_;try simp only [acts]
    refine ro 7 fun K hK=> ?_
    refine want rfl ?_
    go_simp
    refine (PCount v21 (pcount (pcount k.pipes p.d0 p.e0 1) p.d1 p.e1 1) p.d2 p.e2 1 _ HL_19.out.pi (by omega) (by decide) (hpb1.big (by decide))).mono ?_
    rintro er W20 ⟨v22,rfl,hpi,hb⟩
    have HK_20:=nB hb HK_19
    have HP_20:=nB hb HP_19
    have HE2_20:=nB hb HE2_19
    have HE_20:=nE hb HE_19
    have HL_20:=nL hb HL_19
    clear HK_19 HP_19 HE2_19 HE_19 HL_19
    clear hb
    have SPi_20:=hU hpi
    dsimp only
    try clear hS
    refine nx hK (⟨hcell HK_20.out 4,hcell HE2_20.out 0,hcell HE2_20.out 1⟩) fun hS=> ?_
    clear hK K
    (try simp only [acts])
    refine tp 8 ?_;try simp only [acts]
    refine tp 9 ?_;try simp only [acts]
    refine tp 10 ?_;try simp only [acts]
    refine ro 11 fun K hK=> ?_
    refine want rfl ?_
    refine wp_store1 (v:=v22) (off:=4) (new:=kcells {y with h:=u8,pi:=v22} {k with h:=hl2,pipes:=(pcount (pcount (pcount k.pipes p.d0 p.e0 1) p.d1 p.e1 1) p.d2 p.e2 1)}) rfl rfl rfl oneSPipe HK_20.out SPi_20.out.vcells SPi_20.out.vone (show 4 + 1≤17 by decide) rfl ?_
    intro W21 hp
    have HL_21:Hid (LayAt W21 {y with h:=u8,pi:=v22} bs {k with h:=hl2,pipes:=(pcount (pcount (pcount k.pipes p.d0 p.e0 1) p.d1 p.e1 1) p.d2 p.e2 1)}):=hU ((HL_20.out.setPi SPi_20.out).put HK_20.out noWork hp)
    have HE_21:=pK hp HE_20
    have HK_21:Hid (W21.heap[b]? =some (.cells (kcells {y with h:=u8,pi:=v22} {k with h:=hl2,pipes:=(pcount (pcount (pcount k.pipes p.d0 p.e0 1) p.d1 p.e1 1) p.d2 p.e2 1)}) 204 (0,0))):=pA hp
    have HP_21:=pT hp HK_20 HP_20
    have HE2_21:=pT hp HK_20 HE2_20
    have SPi_21:=hU (SPi_20.out.put HK_20.out hp (by decide))
    clear hp
    clear HK_20 HP_20 HE2_20 HE_20 HL_20 SPi_20
    refine nt hK ?_
    clear hK K
    try clear hS
    (try simp only [acts])
    refine doneL (by kernel_rfl) (NoPanic.normal ?_) _
    try clear hS
    clear SPi_21
    clear HE2_21
    repeat' (first|go_values|go_skip|go_guarded|(with_reducible refine wg ?_)|go_step|go_upon)
    rw [rounds_succ]
    obtain ⟨abE3,hab,hab1E3⟩:=nb0 HE_21
    have habKE3:=nlt HK_21 hab
    have habPE3:=nlt HP_21 hab
    obtain ⟨W22,hWn,hba,HE3_22⟩:=nb1 (.cells #[.int .i64 p.d3,.bool p.e3] 215) hab
    have HK_22:=nB hba HK_21
    have HP_22:=nB hba HP_21
    have HE_22:=nE hba HE_21
    have HL_22:=nL hba HL_21
    clear HK_21 HP_21 HE_21 HL_21
    clear hba
    repeat' (first
     |(rw [hWn];clear hWn)
     |go_values|go_skip|go_guarded|(with_reducible refine wg ?_)|go_step|go_upon)
    try rw [hab]
    clear hab
    have hpb3:PB 1000004 (pcount (pcount (pcount (pcount k.pipes p.d0 p.e0 1) p.d1 p.e1 1) p.d2 p.e2 1) p.d3 p.e3 1):=pcount_PB hpb2 _ _ _ (by decide) (by decide)
    have hpl3:(pcount (pcount (pcount (pcount k.pipes p.d0 p.e0 1) p.d1 p.e1 1) p.d2 p.e2 1) p.d3 p.e3 1).length≤1000000:=by rw [pcount_length];exact hpl2
    refine wp_region_noPanic ?_
    refine go0 (S:=fun W=> (W.cell? ⟨b,4,none⟩=some v22)∧(W.cell? ⟨abE3,0,none⟩=some (.int .i64 p.d3))∧(W.cell? ⟨abE3,1,none⟩=some (.bool p.e3))) [11] (⟨hcell HK_22.out 4,hcell HE3_22.out 0,hcell HE3_22.out 1⟩) fun hS=> ?_
    obtain ⟨W23,hWd⟩:=exW W22.drew
    have HK_23:=dB hWd HK_22
    have HP_23:=dB hWd HP_22
    have HE3_23:=dB hWd HE3_22
    have HE_23:=dE hWd HE_22
    have HL_23:=dL hWd HL_22
    rw [hWd] at hS ⊢
    clear hWd
    clear HK_22 HP_22 HE3_22 HE_22 HL_22
    refine tp 0 ?_;try simp only [acts]
    refine tp 1 ?_;try simp only [acts]
    refine tp 2 ?_;try simp only [acts]
    refine tp 3 ?_;try simp only [acts]
    refine tp 4 ?_;try simp only [acts]
    refine tl 5 ?_;try simp only [acts]
    refine tl 6 ?_;try simp only [acts]
    refine ro 7 fun K hK=> ?_
    refine want rfl ?_
    go_simp
    refine (PCount v22 (pcount (pcount (pcount k.pipes p.d0 p.e0 1) p.d1 p.e1 1) p.d2 p.e2 1) p.d3 p.e3 1 _ HL_23.out.pi (by omega) (by decide) (hpb2.big (by decide))).mono ?_
    rintro er W24 ⟨v23,rfl,hpi,hb⟩
    have HK_24:=nB hb HK_23
    have HP_24:=nB hb HP_23
    have HE3_24:=nB hb HE3_23
    have HE_24:=nE hb HE_23
    have HL_24:=nL hb HL_23
    clear HK_23 HP_23 HE3_23 HE_23 HL_23
    clear hb
    have SPi_24:=hU hpi
    dsimp only
    try clear hS
    refine nx hK (⟨hcell HK_24.out 4,hcell HE3_24.out 0,hcell HE3_24.out 1⟩) fun hS=> ?_
    clear hK K
    (try simp only [acts])
    refine tp 8 ?_;try simp only [acts]
    refine tp 9 ?_;try simp only [acts]
    refine tp 10 ?_;try simp only [acts]
    refine ro 11 fun K hK=> ?_
    refine want rfl ?_
    refine wp_store1 (v:=v23) (off:=4) (new:=kcells {y with h:=u8,pi:=v23} {k with h:=hl2,pipes:=(pcount (pcount (pcount (pcount k.pipes p.d0 p.e0 1) p.d1 p.e1 1) p.d2 p.e2 1) p.d3 p.e3 1)}) rfl rfl rfl oneSPipe HK_24.out SPi_24.out.vcells SPi_24.out.vone (show 4 + 1≤17 by decide) rfl ?_
    intro W25 hp
    have HL_25:Hid (LayAt W25 {y with h:=u8,pi:=v23} bs {k with h:=hl2,pipes:=(pcount (pcount (pcount (pcount k.pipes p.d0 p.e0 1) p.d1 p.e1 1) p.d2 p.e2 1) p.d3 p.e3 1)}):=hU ((HL_24.out.setPi SPi_24.out).put HK_24.out noWork hp)
    have HE_25:=pK hp HE_24
    have HK_25:Hid (W25.heap[b]? =some (.cells (kcells {y with h:=u8,pi:=v23} {k with h:=hl2,pipes:=(pcount (pcount (pcount (pcount k.pipes p.d0 p.e0 1) p.d1 p.e1 1) p.d2 p.e2 1) p.d3 p.e3 1)}) 204 (0,0))):=pA hp
    have HP_25:=pT hp HK_24 HP_24
    have HE3_25:=pT hp HK_24 HE3_24
    have SPi_25:=hU (SPi_24.out.put HK_24.out hp (by decide))
    clear hp
    clear HK_24 HP_24 HE3_24 HE_24 HL_24 SPi_24
    refine nt hK ?_
    clear hK K
    try clear hS
    (try simp only [acts])
    refine doneL (by kernel_rfl) (NoPanic.normal ?_) _
    try clear hS
    clear SPi_25
    clear HE3_25
    repeat' (first|go_values|go_skip|go_guarded|(with_reducible refine wg ?_)|go_step|go_upon)
    rw [rounds_succ]
    repeat' (first|go_values|go_skip|go_guarded|(with_reducible refine wg ?_)|go_step|go_upon)
    refine wp_region_noPanic ?_
    refine go0 (S:=fun W=> (W.cell? ⟨b,0,none⟩=some y.p)∧(W.heap[w.heap.size]? =some (.cells (born p pid).cells 220 (0,0)))∧(W.cell? ⟨w.heap.size,0,none⟩=some (.int .i64 pid))∧(W.cell? ⟨b,1,none⟩=some y.t)∧(W.cell? ⟨b,2,none⟩=some (.int .i64 k.t.left))) [20,24] (⟨hcell HK_25.out 0,HP_25.out,hcell HP_25.out 0,hcell HK_25.out 1,hcell HK_25.out 2⟩) fun hS=> ?_
    obtain ⟨W26,hWd⟩:=exW W25.drew
    have HK_26:=dB hWd HK_25
    have HP_26:=dB hWd HP_25
    have HE_26:=dE hWd HE_25
    have HL_26:=dL hWd HL_25
    rw [hWd] at hS ⊢
    clear hWd
    clear HK_25 HP_25 HE_25 HL_25
    refine tp 0 ?_;try simp only [acts]
    refine tp 1 ?_;try simp only [acts]
    refine tp 2 ?_;try simp only [acts]
    refine tp 3 ?_;try simp only [acts]
    refine tp 4 ?_;try simp only [acts]
    refine tp 5 ?_;try simp only [acts]
    refine tl 6 ?_;try simp only [acts]
    refine tv 7 (.agg (born p pid).cells) (fun W hSW=> run_val_load rfl rfl (run_load_whole aggProc hSW.2.1 rfl)) ?_
    (try simp only [acts])
    refine tp 9 ?_;try simp only [acts]
    refine tp 10 ?_;try simp only [acts]
    refine tp 11 ?_;try simp only [acts]
    refine tp 12 ?_;try simp only [acts]
    refine tl 13 ?_;try simp only [acts]
    refine tp 14 ?_;try simp only [acts]
    refine tl 15 ?_;try simp only [acts]
    refine ro 8 fun K hK=> ?_
    refine want rfl ?_
    go_simp
    refine (TPut y.p k.p (born p pid) _ HL_26.out.p (by omega)).mono ?_
    rintro er W27 ⟨v6,rfl,ho,hb⟩
    have HK_27:=nB hb HK_26
    have HP_27:=nB hb HP_26
    have HE_27:=nE hb HE_26
    have HL_27:=nL hb HL_26
    clear HK_26 HP_26 HE_26 HL_26
    clear hb
    have SP_27:=hU (KR.Own.sl szProc ho)
    dsimp only
    try clear hS
    refine nx hK (⟨hcell HK_27.out 0,HP_27.out,hcell HP_27.out 0,hcell HK_27.out 1,hcell HK_27.out 2⟩) fun hS=> ?_
    clear hK K
    (try simp only [acts])
    refine ro 16 fun K hK=> ?_
    refine want rfl ?_
    go_simp
    refine (TAdd _ k.t pid _ ⟨y.t,rfl,HL_27.out.t⟩ (by omega)).mono ?_
    rintro er W28 ⟨v7,rfl,⟨u7,rfl,ht7⟩,hb⟩
    have HK_28:=nB hb HK_27
    have HP_28:=nB hb HP_27
    have HE_28:=nE hb HE_27
    have HL_28:=nL hb HL_27
    have SP_28:=hU (SP_27.out.below hb)
    clear HK_27 HP_27 HE_27 HL_27 SP_27
    clear hb
    have ST_28:=hU ht7
    dsimp only
    try clear hS
    refine nx hK (⟨hcell HK_28.out 0,HP_28.out,hcell HP_28.out 0,hcell HK_28.out 1,hcell HK_28.out 2⟩) fun hS=> ?_
    clear hK K
    (try simp only [acts])
    refine tp 17 ?_;try simp only [acts]
    refine tp 18 ?_;try simp only [acts]
    refine tp 19 ?_;try simp only [acts]
    refine ro 20 fun K hK=> ?_
    refine want rfl ?_
    refine wp_store1 (v:=v6) (off:=0) (new:=kcells {y with h:=u8,pi:=v23,p:=v6} {k with h:=hl2,pipes:=count4 k.pipes p 1,p:=put k.p (born p pid)}) rfl rfl rfl oneSProc HK_28.out SP_28.out.vcells SP_28.out.vone (show 0 + 1≤17 by decide) rfl ?_
    intro W29 hp
    have HL_29:Hid (LayAt W29 {y with h:=u8,pi:=v23,p:=v6} bs {k with h:=hl2,pipes:=count4 k.pipes p 1,p:=put k.p (born p pid)}):=hU ((HL_28.out.setP SP_28.out).put HK_28.out noWork hp)
    have HE_29:=pK hp HE_28
    have HK_29:Hid (W29.heap[b]? =some (.cells (kcells {y with h:=u8,pi:=v23,p:=v6} {k with h:=hl2,pipes:=count4 k.pipes p 1,p:=put k.p (born p pid)}) 204 (0,0))):=pA hp
    have HP_29:=pT hp HK_28 HP_28
    have SP_29:=hU (SP_28.out.put HK_28.out hp (by decide))
    have ST_29:=hU (ST_28.out.put HK_28.out hp (by decide))
    clear hp
    clear HK_28 HP_28 HE_28 HL_28 SP_28 ST_28
    refine nt hK ?_
    clear hK K
    try clear hS
    (try simp only [acts])
    refine tp 21 ?_;try simp only [acts]
    refine tp 22 ?_;try simp only [acts]
    refine tp 23 ?_;try simp only [acts]
    refine ro 24 fun K hK=> ?_
    refine want rfl ?_
    refine wp_store (v:=.agg #[u7,.int .i64 (tadd k.t pid).left]) (off:=1) (new:=kcells {y with h:=u8,pi:=v23,p:=v6,t:=u7} {k with h:=hl2,pipes:=count4 k.pipes p 1,p:=put k.p (born p pid),t:=tadd k.t pid}) rfl rfl rfl aggTurn.size HK_29.out rfl (show 1 + 2≤17 by decide) (onesT ST_29.out) rfl ?_
    intro W30 hp
    have HL_30:Hid (LayAt W30 {y with h:=u8,pi:=v23,p:=v6,t:=u7} bs {k with h:=hl2,pipes:=count4 k.pipes p 1,p:=put k.p (born p pid),t:=tadd k.t pid}):=hU ((HL_29.out.setT ST_29.out).put HK_29.out noWork hp)
    have HE_30:=pK hp HE_29
    have HK_30:Hid (W30.heap[b]? =some (.cells (kcells {y with h:=u8,pi:=v23,p:=v6,t:=u7} {k with h:=hl2,pipes:=count4 k.pipes p 1,p:=put k.p (born p pid),t:=tadd k.t pid}) 204 (0,0))):=pA hp
    have HP_30:=pT hp HK_29 HP_29
    have SP_30:=hU (SP_29.out.put HK_29.out hp (by decide))
    have ST_30:=hU (ST_29.out.put HK_29.out hp (by decide))
    clear hp
    clear HK_29 HP_29 HE_29 HL_29 SP_29 ST_29
    refine nt hK ?_
    clear hK K
    try clear hS
    (try simp only [acts])
    refine doneL (by kernel_rfl) (NoPanic.normal ?_) _
    try clear hS
    have kp9:W30.cell? ⟨w.heap.size,0,none⟩=some (.int .i64 pid):=hcell HP_30.out 0
    repeat' (first|go_values|go_skip|go_guarded|(with_reducible refine wg ?_)|go_step|go_upon)
    go_ret2
    rw [HTE.out,HTV.out,HTF.out,if_pos rfl,if_pos rfl]
    exact ⟨by first|rfl|(congr 3;simp [IntKind.wrap_u32]),⟨_,_,HK_30.out,HL_30.out⟩,HE_30.out⟩
end Kn
end Go.Proofs.YthgehdghihbiaaaGreatDoor
