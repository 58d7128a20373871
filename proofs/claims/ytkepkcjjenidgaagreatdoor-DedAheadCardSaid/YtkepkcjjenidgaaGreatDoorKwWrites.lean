/- kern.writes. Conditions: as many as Go can hold; words' numbers. -/
import Derived.Test.YtkepkcjjenidgaaGreatDoorKwFresh
import Derived.Test.YtkepkcjjenidgaaGreatDoorGEnd
import Derived.Test.YtkepkcjjenidgaaGreatDoorGWork
import Derived.Test.YtkepkcjjenidgaaGreatDoorGSeg
import Derived.Test.YtkepkcjjenidgaaGreatDoorGPipe
import Derived.Test.YtkepkcjjenidgaaGreatDoorGRo
set_option linter.unusedVariables false
set_option maxRecDepth 100000
set_option maxHeartbeats 8000000
set_option linter.unusedSimpArgs false
namespace Go.Proofs.YtkepkcjjenidgaaGreatDoor
open Go.RowKit KR RegT3
namespace Kn
theorem WWrites (b:Nat) (k:Kern) (p:Proc) (x:Call) (w:World) (hk:WorkAt w b k) (hpl:k.pipes.length≤1000000) (hm:p.mem.size≤1000000) (hpd:∀ q ∈ k.pipes,q.data.size≤1000000) (ha0:0≤x.a) (ha1:x.a<4294967296) (hb0:0≤x.b) (hb1:x.b<4294967296) (hc0:0≤x.c) (hc1:x.c<4294967296):
 Calls Tryz.prog 189 #[.pointer (some ⟨b,0,none⟩),.agg p.cells,.agg x.cells] w (GivesW b (.tuple #[.int .u32 (writes k p x).v,.int .i64 (writes k p x).e]) (writes k p x).k w):=by
 obtain ⟨y,bs,hk0,hl⟩:=hk
 have hbl:=hlt hk0
 obtain ⟨W0,hW0,HK_0,HP_0,HX_0,HE_0,HL_0,hz0,hzK,hzP,hzX⟩:=st2 p.cells 167 x.cells 165 hk0 hl
 have HEN:=fun W h=> WEnd b k p x.a W h ha0 ha1
 have kX:W0.cell? ⟨w.heap.size + 1,1,none⟩=some (.int .u32 x.a):=hcell HX_0.out 1
 cases he:isEnd k p x.a with
 |false=>
  have HW:=hU (show writes k p x=⟨k,0,1⟩ by rw [writes,if_pos (.inl he)])
  simp only [endV,he,Bool.false_eq_true,if_false] at HEN
  clear he
  go_enter Tryz.func189,Tryz.ntmps189
  repeat' (first
   |(rw [hW0];clear hW0)
   |(refine wpList_load (t:=167) (v:=.agg p.cells) rfl rfl rfl (run_load_whole aggProc HP_0.out rfl) ?_)
   |go_values|go_skip|go_guarded|(with_reducible refine wg ?_)|go_step|go_upon)
  refine (HEN _ ⟨_,_,HK_0.out,HL_0.out⟩).mono ?_
  rintro er W1 ⟨rfl,hb⟩
  have HK_1:=nB hb HK_0
  have HP_1:=nB hb HP_0
  have HX_1:=nB hb HX_0
  have HE_1:=nE hb HE_0
  have HL_1:=nL hb HL_0
  clear HK_0 HP_0 HX_0 HE_0 HL_0
  clear hb kX HEN
  dsimp only
  obtain ⟨abN,hab,hab1N⟩:=nb0 HE_1
  have habKN:=nlt HK_1 hab
  have habPN:=nlt HP_1 hab
  have habXN:=nlt HX_1 hab
  obtain ⟨W2,hWn,hba,HN_2⟩:=nb1 (.cells #[.int .i64 0,.bool false] 162) hab
  have HK_2:=nB hba HK_1
  have HP_2:=nB hba HP_1
  have HX_2:=nB hba HX_1
  have HE_2:=nE hba HE_1
  have HL_2:=nL hba HL_1
  clear HK_1 HP_1 HX_1 HE_1 HL_1
  clear hba
  repeat' (first
   |(rw [hWn,hab];clear hWn hab)
   |(refine wpList_store (t:=162) (v:=.agg #[.int .i64 0,.bool false]) (off:=0) (new:=#[.int .i64 0,.bool false]) rfl rfl rfl rfl aggEnd.size HN_2.out rfl (show 0 + 2≤2 by decide) (by intro u hu;simp [Value.cells] at hu;rcases hu with rfl|rfl <;> rfl) rfl ?_;intro W3 hp
     have HE_3:=pE hp HE_2
     have HL_3:Hid (LayAt W3 y bs k):=hU (hl.kept hk0 noWork HE_3.out)
     have HN_3:=pA hp
     have HK_3:=pT hp HN_2 HK_2
     have HP_3:=pT hp HN_2 HP_2
     have HX_3:=pT hp HN_2 HX_2
     clear hp
     clear HK_2 HP_2 HX_2 HN_2 HE_2 HL_2)
   |go_values|go_skip|go_guarded|(with_reducible refine wg ?_)|go_step|go_upon)
  go_ret2
  rw [HW.out]
  exact ⟨rfl,⟨_,_,HK_3.out,HL_3.out⟩,HE_3.out⟩
 |true=>
  obtain ⟨d,e,hg⟩:∃ d e,getFd p x.a.toNat=(d,e):=⟨_,_,rfl⟩
  have hd1:1≤d:=by
   refine Decidable.byContradiction fun h=> ?_
   rw [isEnd_no (.inr (.inl (by rw [hg];show d<1;omega)))] at he
   cases he
  have hdl:d≤k.pipes.length:=by
   refine Decidable.byContradiction fun h=> ?_
   rw [isEnd_no (.inr (.inr (by rw [hg];show (k.pipes.length:Int)<d;omega)))] at he
   cases he
  simp only [endV,he,if_true,hg] at HEN
  cases e
  · have HW:=hU (show writes k p x=⟨k,0,1⟩ by rw [writes,if_pos (.inr (by rw [hg]))])
    clear he hg hd1 hdl
    go_enter Tryz.func189,Tryz.ntmps189
    repeat' (first
     |(rw [hW0];clear hW0)
     |(refine wpList_load (t:=167) (v:=.agg p.cells) rfl rfl rfl (run_load_whole aggProc HP_0.out rfl) ?_)
     |go_values|go_skip|go_guarded|(with_reducible refine wg ?_)|go_step|go_upon)
    refine (HEN _ ⟨_,_,HK_0.out,HL_0.out⟩).mono ?_
    rintro er W1 ⟨rfl,hb⟩
    have HK_1:=nB hb HK_0
    have HP_1:=nB hb HP_0
    have HX_1:=nB hb HX_0
    have HE_1:=nE hb HE_0
    have HL_1:=nL hb HL_0
    clear HK_0 HP_0 HX_0 HE_0 HL_0
    clear hb kX HEN
    dsimp only
    obtain ⟨abN,hab,hab1N⟩:=nb0 HE_1
    have habKN:=nlt HK_1 hab
    have habPN:=nlt HP_1 hab
    have habXN:=nlt HX_1 hab
    obtain ⟨W2,hWn,hba,HN_2⟩:=nb1 (.cells #[.int .i64 0,.bool false] 162) hab
    have HK_2:=nB hba HK_1
    have HP_2:=nB hba HP_1
    have HX_2:=nB hba HX_1
    have HE_2:=nE hba HE_1
    have HL_2:=nL hba HL_1
    clear HK_1 HP_1 HX_1 HE_1 HL_1
    clear hba
    repeat' (first
     |(rw [hWn,hab];clear hWn hab)
     |(refine wpList_store (t:=162) (v:=.agg #[.int .i64 d,.bool false]) (off:=0) (new:=#[.int .i64 d,.bool false]) rfl rfl rfl rfl aggEnd.size HN_2.out rfl (show 0 + 2≤2 by decide) (by intro u hu;simp [Value.cells] at hu;rcases hu with rfl|rfl <;> rfl) rfl ?_;intro W3 hp
       have HE_3:=pE hp HE_2
       have HL_3:Hid (LayAt W3 y bs k):=hU (hl.kept hk0 noWork HE_3.out)
       have HN_3:=pA hp
       have HK_3:=pT hp HN_2 HK_2
       have HP_3:=pT hp HN_2 HP_2
       have HX_3:=pT hp HN_2 HX_2
       clear hp
       clear HK_2 HP_2 HX_2 HN_2 HE_2 HL_2
       have kN1:W3.cell? ⟨abN,1,none⟩=some (.bool false):=hcell HN_3.out 1)
     |go_values|go_skip|go_guarded|(with_reducible refine wg ?_)|go_step|go_upon)
    go_ret2
    rw [HW.out]
    exact ⟨rfl,⟨_,_,HK_3.out,HL_3.out⟩,HE_3.out⟩
  obtain ⟨so,hso⟩:∃ so,Sg.outS p.mem x.b x.c=so:=⟨_,rfl⟩
  obtain ⟨eo,heo⟩:∃ eo,Sg.outE p.mem x.b x.c=eo:=⟨_,rfl⟩
  have HSO:=hU (fun W=> show Calls Tryz.prog 232 #[.string p.mem,.int .u32 x.b,.int .u32 x.c] W (Is (.tuple #[.string so,.int .i64 eo]) W) by rw [← hso,← heo];exact Seg.Out p.mem x.b x.c W (by omega) hb0 hb1 hc0 hc1)
  have hsz:so.size≤1000000:=by
   rw [← hso]
   unfold Sg.outS
   split
   · rw [ByteArray.size_extract];omega
   · exact Nat.zero_le _
  have HW1:=hU (show writes k p x=if eo ≠ 0 then ⟨k,0,eo⟩ else if (pwrite (thePipe k p x.a) so).2.2 ≠ 0 then ⟨k,0,(pwrite (thePipe k p x.a) so).2.2⟩ else ⟨{k with pipes:=k.pipes.set (d - 1).toNat (pwrite (thePipe k p x.a) so).1},(pwrite (thePipe k p x.a) so).2.1 % 4294967296,0⟩ by rw [writes,if_neg (by rw [he,hg];simp),hso,heo,hg])
  have HTP:=hU (show thePipe k p x.a=(k.pipes[(d - 1).toNat]?).getD ⟨ByteArray.empty,0,0⟩ by rw [thePipe,hg])
  clear he hg hso heo
  go_enter Tryz.func189,Tryz.ntmps189
  repeat' (first
   |(rw [hW0];clear hW0)
   |(refine wpList_load (t:=167) (v:=.agg p.cells) rfl rfl rfl (run_load_whole aggProc HP_0.out rfl) ?_)
   |go_values|go_skip|go_guarded|(with_reducible refine wg ?_)|go_step|go_upon)
  refine (HEN _ ⟨_,_,HK_0.out,HL_0.out⟩).mono ?_
  rintro er W1 ⟨rfl,hb⟩
  have HK_1:=nB hb HK_0
  have HP_1:=nB hb HP_0
  have HX_1:=nB hb HX_0
  have HE_1:=nE hb HE_0
  have HL_1:=nL hb HL_0
  clear HK_0 HP_0 HX_0 HE_0 HL_0
  clear hb kX HEN
  dsimp only
  obtain ⟨abN,hab,hab1N⟩:=nb0 HE_1
  have habKN:=nlt HK_1 hab
  have habPN:=nlt HP_1 hab
  have habXN:=nlt HX_1 hab
  obtain ⟨W2,hWn,hba,HN_2⟩:=nb1 (.cells #[.int .i64 d,.bool true] 162) hab
  have HK_2:=nB hba HK_1
  have HP_2:=nB hba HP_1
  have HX_2:=nB hba HX_1
  have HE_2:=nE hba HE_1
  have HL_2:=nL hba HL_1
  clear HK_1 HP_1 HX_1 HE_1 HL_1
  clear hba
  have kN1:W2.cell? ⟨abN,1,none⟩=some (.bool true):=hcell HN_2.out 1
  have kM:W2.cell? ⟨w.heap.size,12,none⟩=some (.string p.mem):=hcell HP_2.out 12
  have kB:W2.cell? ⟨w.heap.size + 1,2,none⟩=some (.int .u32 x.b):=hcell HX_2.out 2
  have kC:W2.cell? ⟨w.heap.size + 1,3,none⟩=some (.int .u32 x.c):=hcell HX_2.out 3
  repeat' (first
   |(rw [hWn];clear hWn)
   |go_values|go_skip|go_guarded|(with_reducible refine wg ?_)|go_step|go_upon)
  try rw [hab]
  clear hab
  refine (HSO.out _).mono ?_
  rintro er Wx ⟨rfl,rfl⟩
  clear kN1 kM kB kC HSO
  dsimp only
  by_cases hz:eo=0
  rotate_left
  · have HW:=HW1.out
    rw [if_pos hz] at HW
    have HW2:=hU HW
    have hzb:(eo !=0)=true:=by simp [hz]
    clear HW HW1
    repeat' (first
     |go_values|go_skip|go_guarded|(with_reducible refine wg ?_)|go_step|go_upon)
    go_ret2
    rw [HW2.out]
    exact ⟨rfl,⟨_,_,HK_2.out,HL_2.out⟩,HE_2.out⟩
  subst hz
  have HW:=HW1.out
  rw [if_neg (by simp)] at HW
  have HW2:=hU HW
  clear HW HW1
  obtain ⟨j,hj⟩:∃ j:Nat,d=(j:Int) + 1:=⟨(d - 1).toNat,by omega⟩
  have hdj:(d - 1).toNat=j:=by omega
  rw [hdj] at HW2 HTP
  have hjl:j<k.pipes.length:=by omega
  obtain ⟨pp,hpp⟩:∃ pp,k.pipes[j]? =some pp:=⟨_,List.getElem?_eq_getElem hjl⟩
  have htp:thePipe k p x.a=pp:=by rw [HTP.out,hpp];rfl
  rw [htp] at HW2
  have hpz:=hpd pp (List.mem_of_getElem? hpp)
  clear HTP htp hdj
  obtain ⟨pa,pc,hpa,hpc0,hpc1,h0|⟨gr,og,cur,ha,hgr,hi⟩⟩:=HL_2.out.pi
  · rw [h0] at hjl;exact absurd hjl (Nat.not_lt_zero _)
  subst ha
  have HPA:=hU hpa
  clear hpa
  have HR_2:=hU hgr
  have hjI:d - 1=(j:Int):=by omega
  have hjL:(j:Int)<(k.pipes.length:Int):=by omega
  have hjw:IntKind.i64.wrap (j:Int)=(j:Int):=by rw [IntKind.wrap_i64];omega
  have hj0:(0:Int)≤(j:Int):=by omega
  clear hgr hj hd1 hdl
  obtain ⟨wr,hwr⟩:∃ wr,pwrite pp so=wr:=⟨_,rfl⟩
  have HPW:=hU (fun W=> show Calls Tryz.prog 233 #[.agg pp.cells,.string so] W (Gives (.tuple #[.agg wr.1.cells,.int .i64 wr.2.1,.int .i64 wr.2.2]) W) by rw [← hwr];exact PWrite pp so W hpz (by omega))
  rw [hwr] at HW2
  clear hwr
  obtain ⟨np,nv,ne⟩:=wr
  dsimp only at HPW HW2
  repeat' (first
   |go_values|go_skip|go_guarded|(with_reducible refine wg ?_)|go_step|go_upon)
  refine wp_region_noPanic ?_
  refine go0 (S:=fun W=> (W.cell? ⟨b,4,none⟩=some (.slice (some ⟨gr,og,none⟩) k.pipes.length pc))∧(W.cell? ⟨abN,0,none⟩=some (.int .i64 d))∧(W.heap[gr]? =some (.cells cur 172 (0,0)))) [17] (⟨((hcell HK_2.out 4).trans (congrArg some HPA.out)),hcell HN_2.out 0,HR_2.out⟩) fun hS=> ?_
  obtain ⟨W3,hWd⟩:=exW W2.drew
  have HK_3:=dB hWd HK_2
  have HP_3:=dB hWd HP_2
  have HX_3:=dB hWd HX_2
  have HN_3:=dB hWd HN_2
  have HR_3:=dB hWd HR_2
  have HE_3:=dE hWd HE_2
  have HL_3:=dL hWd HL_2
  rw [hWd] at hS ⊢
  clear hWd
  clear HK_2 HP_2 HX_2 HN_2 HR_2 HE_2 HL_2
  refine tp 0 ?_;try simp only [acts]
  refine tp 1 ?_;try simp only [acts]
  refine tp 2 ?_;try simp only [acts]
  refine tp 3 ?_;try simp only [acts]
  refine tl 4 ?_;try simp only [acts]
  refine tp 5 ?_;try simp only [acts]
  refine tl 6 ?_;try simp only [acts]
  refine tp 7 ?_;try simp only [acts]
  refine tp 8 ?_;try simp only [acts]
  refine tv 9 (.agg pp.cells) (fun W hSW=> run_val_load rfl rfl (run_load_arr (o:=og + j * 3) aggPipe rfl (fun _ u hu=> (hcell hSW.2.2 _).trans (hi _ _ hpp _ u hu)))) ?_
  (try simp only [acts])
  refine tp 10 ?_;try simp only [acts]
  refine twoL (i:=11) (j:=16) (by kernel_rfl) rfl rfl (fun K hK=> ?_) (fun K hK=> ?_)
  refine want rfl ?_
  go_simp
  refine (HPW.out _).mono ?_
  rintro er W4 ⟨rfl,hb⟩
  have HK_4:=nB hb HK_3
  have HP_4:=nB hb HP_3
  have HX_4:=nB hb HX_3
  have HN_4:=nB hb HN_3
  have HR_4:=nB hb HR_3
  have HE_4:=nE hb HE_3
  have HL_4:=nL hb HL_3
  clear HK_3 HP_3 HX_3 HN_3 HR_3 HE_3 HL_3
  clear hb
  dsimp only
  try clear hS
  refine nx hK (⟨((hcell HK_4.out 4).trans (congrArg some HPA.out)),hcell HN_4.out 0,HR_4.out⟩) fun hS=> ?_
  clear hK K
  (try simp only [acts])
  refine tp 12 ?_;try simp only [acts]
  refine tp 13 ?_;try simp only [acts]
  refine tp 14 ?_;try simp only [acts]
  refine tp 15 ?_;try simp only [acts]
  refine ro 16 fun K hK=> ?_
  obtain ⟨abG,hab,hab1⟩:=nb0 HE_4
  have habK:=nlt HK_4 hab
  have habP:=nlt HP_4 hab
  have habX:=nlt HX_4 hab
  have habN:=nlt HN_4 hab
  have habR:=nlt HR_4 hab
  have hoffG:=HL_4.out.pi.offNew (Nat.le_of_eq hab)
  go_simp
  obtain ⟨W5,hWn,hba,HG_5⟩:=nb1 (.cells #[.string ⟨#[]⟩,.int .i64 0,.int .i64 0] 172) hab
  rw [hWn]
  clear hWn
  have HK_5:=nB hba HK_4
  have HP_5:=nB hba HP_4
  have HX_5:=nB hba HX_4
  have HN_5:=nB hba HN_4
  have HR_5:=nB hba HR_4
  have HE_5:=nE hba HE_4
  have HL_5:=nL hba HL_4
  clear HK_4 HP_4 HX_4 HN_4 HR_4 HE_4 HL_4
  clear hba
  try rw [hab]
  clear hab
  try clear hS
  refine nx hK (⟨((hcell HK_5.out 4).trans (congrArg some HPA.out)),hcell HN_5.out 0,HR_5.out⟩) fun hS=> ?_
  clear hK K
  (try simp only [acts])
  rotate_left
  obtain ⟨abG,hab,hab1⟩:=nb0 HE_3
  have habK:=nlt HK_3 hab
  have habP:=nlt HP_3 hab
  have habX:=nlt HX_3 hab
  have habN:=nlt HN_3 hab
  have habR:=nlt HR_3 hab
  have hoffG:=HL_3.out.pi.offNew (Nat.le_of_eq hab)
  go_simp
  obtain ⟨W4,hWn,hba,HG_4⟩:=nb1 (.cells #[.string ⟨#[]⟩,.int .i64 0,.int .i64 0] 172) hab
  rw [hWn]
  clear hWn
  have HK_4:=nB hba HK_3
  have HP_4:=nB hba HP_3
  have HX_4:=nB hba HX_3
  have HN_4:=nB hba HN_3
  have HR_4:=nB hba HR_3
  have HE_4:=nE hba HE_3
  have HL_4:=nL hba HL_3
  clear HK_3 HP_3 HX_3 HN_3 HR_3 HE_3 HL_3
  clear hba
  try rw [hab]
  clear hab
  try clear hS
  refine nx hK (⟨((hcell HK_4.out 4).trans (congrArg some HPA.out)),hcell HN_4.out 0,HR_4.out⟩) fun hS=> ?_
  clear hK K
  (try simp only [acts])
  refine ro 11 fun K hK=> ?_
  refine want rfl ?_
  go_simp
  refine (HPW.out _).mono ?_
  rintro er W5 ⟨rfl,hb⟩
  have HK_5:=nB hb HK_4
  have HP_5:=nB hb HP_4
  have HX_5:=nB hb HX_4
  have HN_5:=nB hb HN_4
  have HR_5:=nB hb HR_4
  have HG_5:=nB hb HG_4
  have HE_5:=nE hb HE_4
  have HL_5:=nL hb HL_4
  clear HK_4 HP_4 HX_4 HN_4 HR_4 HG_4 HE_4 HL_4
  clear hb
  dsimp only
  try clear hS
  refine nx hK (⟨((hcell HK_5.out 4).trans (congrArg some HPA.out)),hcell HN_5.out 0,HR_5.out⟩) fun hS=> ?_
  clear hK K
  (try simp only [acts])
  refine tp 12 ?_;try simp only [acts]
  refine tp 13 ?_;try simp only [acts]
  refine tp 14 ?_;try simp only [acts]
  refine tp 15 ?_;try simp only [acts]
  all_goals
   refine ro 17 fun K hK=> ?_
   refine want rfl ?_
   refine wp_store (v:=.agg np.cells) (off:=0) (new:=np.cells) rfl rfl rfl aggPipe.size HG_5.out rfl (show 0 + 3≤3 by decide) (onesPp np) rfl ?_
   intro W6 hp
   have HE_6:=pE hp HE_5
   have HL_6:Hid (LayAt W6 y bs k):=hU (HL_5.out.putPipe (HL_5.out.pi.putOff hoffG hp) HG_5.out hp)
   have HG_6:=pA hp
   have HK_6:=pT hp HG_5 HK_5
   have HP_6:=pT hp HG_5 HP_5
   have HX_6:=pT hp HG_5 HX_5
   have HN_6:=pT hp HG_5 HN_5
   have HR_6:=pO hp HR_5
   clear hp
   clear HK_5 HP_5 HX_5 HN_5 HR_5 HG_5 HE_5 HL_5
   refine nt hK ?_
   clear hK K
   try clear hS
   (try simp only [acts])
   refine ro 18 fun K hK=> ?_
   go_simp
   refine nb hK ?_
   clear hK K
   (try simp only [acts])
   refine ro 19 fun K hK=> ?_
   go_simp
   refine nb hK ?_
   clear hK K
   (try simp only [acts])
   refine doneL (by kernel_rfl) (NoPanic.normal ?_) _
   try clear hS
   by_cases hz:ne=0
   rotate_left
   · have HW:=HW2.out
     rw [if_pos hz] at HW
     have HW3:=hU HW
     have hzb:(ne !=0)=true:=by simp [hz]
     clear HW HW2
     repeat' (first
      |go_values|go_skip|go_guarded|(with_reducible refine wg ?_)|go_step|go_upon)
     go_ret2
     rw [HW3.out]
     exact ⟨rfl,⟨_,_,HK_6.out,HL_6.out⟩,HE_6.out⟩
   subst hz
   have HW:=HW2.out
   rw [if_neg (by simp)] at HW
   have HW3:=hU HW
   clear HW HW2
   clear HR_6
   have kP4:W6.cell? ⟨b,4,none⟩=some y.pi:=hcell HK_6.out 4
   repeat' (first
    |go_values|go_skip|go_guarded|(with_reducible refine wg ?_)|go_step|go_upon)
   have hG6:=hlt HG_6.out
   have hE6:=HE_6.out.size
   refine (clonePipe y.pi k.pipes _ HL_6.out.pi (by omega)).mono ?_
   rintro er W7 ⟨vc,rfl,ho,hb⟩
   have HK_7:=nB hb HK_6
   have HP_7:=nB hb HP_6
   have HX_7:=nB hb HX_6
   have HN_7:=nB hb HN_6
   have HG_7:=nB hb HG_6
   have HE_7:=nE hb HE_6
   have HL_7:=nL hb HL_6
   clear HK_6 HP_6 HX_6 HN_6 HG_6 HE_6 HL_6
   clear hb kP4
   have hne:k.pipes ≠ []:=fun h=> by rw [h] at hjl;exact Nat.not_lt_zero _ hjl
   obtain ⟨gc,cap,cur2,rfl,hB,hrow⟩:=Own.row ho hne
   clear ho hne
   dsimp only
   have hrc:=hrow.2
   have hcap:=hrc.1
   have hcsz:=hrc.2.2.1
   have HC_7:=hU hrow.1
   clear hrow
   have hcs:∀ W:World,W.heap[gc]? =some (.cells cur2 172 (0,0))→SlPp W (.slice (some ⟨gc,0,none⟩) k.pipes.length cap) k.pipes:=fun W h=> KR.Own.sl szPipe (Row.own szPipe (cap:=cap) (cur:=cur2) ⟨h,hrc⟩ (Nat.zero_le gc))
   repeat' (first
    |(refine wpList_store1 (t:=47) (v:=(.slice (some ⟨gc,0,none⟩) k.pipes.length cap)) (off:=4) (new:=kcells {y with pi:=(.slice (some ⟨gc,0,none⟩) k.pipes.length cap)} k) rfl rfl rfl rfl oneSPipe HK_7.out (hcs _ HC_7.out).vcells (hcs _ HC_7.out).vone (show 4 + 1≤17 by decide) rfl ?_;intro W8 hp
      have HL_8:Hid (LayAt W8 {y with pi:=(.slice (some ⟨gc,0,none⟩) k.pipes.length cap)} bs k):=hU ((HL_7.out.setPi (hcs _ HC_7.out)).put HK_7.out noWork hp)
      have HE_8:=pK hp HE_7
      have HK_8:Hid (W8.heap[b]? =some (.cells (kcells {y with pi:=(.slice (some ⟨gc,0,none⟩) k.pipes.length cap)} k) 178 (0,0))):=pA hp
      have HP_8:=pT hp HK_7 HP_7
      have HX_8:=pT hp HK_7 HX_7
      have HN_8:=pT hp HK_7 HN_7
      have HG_8:=pT hp HK_7 HG_7
      have HC_8:=pT hp HK_7 HC_7
      clear hp
      clear HK_7 HP_7 HX_7 HN_7 HG_7 HC_7 HE_7 HL_7)
    |go_values|go_skip|go_guarded|(with_reducible refine wg ?_)|go_step|go_upon)
   refine wp_region_noPanic ?_
   refine go0 (S:=fun W=> (W.cell? ⟨b,4,none⟩=some (.slice (some ⟨gc,0,none⟩) k.pipes.length cap))∧(W.cell? ⟨abN,0,none⟩=some (.int .i64 d))∧(W.heap[abG]? =some (.cells np.cells 172 (0,0)))) [10] (⟨hcell HK_8.out 4,hcell HN_8.out 0,HG_8.out⟩) fun hS=> ?_
   obtain ⟨W9,hWd⟩:=exW W8.drew
   have HK_9:=dB hWd HK_8
   have HP_9:=dB hWd HP_8
   have HX_9:=dB hWd HX_8
   have HN_9:=dB hWd HN_8
   have HG_9:=dB hWd HG_8
   have HC_9:=dB hWd HC_8
   have HE_9:=dE hWd HE_8
   have HL_9:=dL hWd HL_8
   rw [hWd] at hS ⊢
   clear hWd
   clear HK_8 HP_8 HX_8 HN_8 HG_8 HC_8 HE_8 HL_8
   refine tp 0 ?_;try simp only [acts]
   refine tp 1 ?_;try simp only [acts]
   refine tp 2 ?_;try simp only [acts]
   refine tp 3 ?_;try simp only [acts]
   refine tl 4 ?_;try simp only [acts]
   refine tp 5 ?_;try simp only [acts]
   refine tl 6 ?_;try simp only [acts]
   refine tp 7 ?_;try simp only [acts]
   refine tv 8 (.agg np.cells) (fun W hSW=> run_val_load rfl rfl (run_load_whole aggPipe hSW.2.2 rfl)) ?_
   (try simp only [acts])
   refine tp 9 ?_;try simp only [acts]
   refine ro 10 fun K hK=> ?_
   refine want rfl ?_
   refine wp_store (v:=.agg np.cells) (off:=j * 3) (new:=(splice cur2 (j * 3) np.cells)) rfl rfl rfl aggPipe.size HC_9.out rfl (by omega) (onesPp np) rfl ?_
   intro W10 hp
   have HE_10:=pE hp HE_9
   have HL_10:Hid (LayAt W10 {y with pi:=(.slice (some ⟨gc,0,none⟩) k.pipes.length cap)} bs {k with pipes:=k.pipes.set j np}):=hU (HL_9.out.putPipe (row_set HC_9.out hrc hjl hp) HC_9.out hp)
   have HC_10:=pA hp
   have HK_10:=pT hp HC_9 HK_9
   have HP_10:=pT hp HC_9 HP_9
   have HX_10:=pT hp HC_9 HX_9
   have HN_10:=pT hp HC_9 HN_9
   have HG_10:=pO hp HG_9
   clear hp
   clear HK_9 HP_9 HX_9 HN_9 HG_9 HC_9 HE_9 HL_9
   refine nt hK ?_
   clear hK K
   try clear hS
   (try simp only [acts])
   refine doneL (by kernel_rfl) (NoPanic.normal ?_) _
   try clear hS
   repeat' (first|go_values|go_skip|go_guarded|(with_reducible refine wg ?_)|go_step|go_upon)
   go_ret2
   rw [HW3.out]
   exact ⟨rfl,⟨_,_,HK_10.out,HL_10.out⟩,HE_10.out⟩
end Kn
end Go.Proofs.YtkepkcjjenidgaaGreatDoor
