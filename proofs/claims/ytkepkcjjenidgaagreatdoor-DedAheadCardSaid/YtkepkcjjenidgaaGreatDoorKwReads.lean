/- kern.reads. Conditions: as many as Go can hold; words' numbers. -/
import Derived.Test.YtkepkcjjenidgaaGreatDoorKwFresh
import Derived.Test.YtkepkcjjenidgaaGreatDoorGEnd
import Derived.Test.YtkepkcjjenidgaaGreatDoorGWork
import Derived.Test.YtkepkcjjenidgaaGreatDoorGSeg
import Derived.Test.YtkepkcjjenidgaaGreatDoorGPipe
import Derived.Test.YtkepkcjjenidgaaGreatDoorGTab
import Derived.Test.YtkepkcjjenidgaaGreatDoorGRo
set_option linter.unusedVariables false
set_option maxRecDepth 100000
set_option maxHeartbeats 8000000
set_option linter.unusedSimpArgs false
namespace Go.Proofs.YtkepkcjjenidgaaGreatDoor
open Go.RowKit KR RegT3
namespace Kn
theorem WReads (b:Nat) (k:Kern) (p:Proc) (x:Call) (w:World) (hk:WorkAt w b k) (hn:k.p.length≤1000000) (hpl:k.pipes.length≤1000000) (hm:p.mem.size≤1000000) (hpd:∀ q ∈ k.pipes,q.data.size≤1000000) (ha0:0≤x.a) (ha1:x.a<4294967296) (hb0:0≤x.b) (hb1:x.b<4294967296) (hc0:0≤x.c) (hc1:x.c<4294967296):
 Calls Tryz.prog 190 #[.pointer (some ⟨b,0,none⟩),.agg p.cells,.agg x.cells] w (GivesW b (.tuple #[.int .u32 (reads k p x).v,.int .i64 (reads k p x).e]) (reads k p x).k w):=by
 obtain ⟨y,bs,hk0,hl⟩:=hk
 have hbl:=hlt hk0
 obtain ⟨W0,hW0,HK_0,HP_0,HX_0,HE_0,HL_0,hz0,hzK,hzP,hzX⟩:=st2 p.cells 167 x.cells 165 hk0 hl
 have HEN:=fun W h=> WEnd b k p x.a W h ha0 ha1
 have kX:W0.cell? ⟨w.heap.size + 1,1,none⟩=some (.int .u32 x.a):=hcell HX_0.out 1
 cases he:isEnd k p x.a with
 |false=>
  have HW:=hU (show reads k p x=⟨k,0,1⟩ by rw [reads,if_pos (.inl he)])
  simp only [endV,he,Bool.false_eq_true,if_false] at HEN
  clear he
  go_enter Tryz.func190,Tryz.ntmps190
  repeat' (first
   |(rw [hW0];clear hW0)
   |(refine wpList_load (t:=167) (v:=.agg p.cells) rfl rfl rfl (run_load_whole aggProc HP_0.out rfl) ?_)
   |go_values|go_skip|go_guarded|(with_reducible refine wg ?_)|go_step|go_upon)
  refine (HEN _ ⟨_,_,HK_0.out,HL_0.out⟩).mono ?_
  rintro er W1 ⟨rfl,hb⟩
  have HK_1:=nB hb HK_0
  have HP_1:=nB hb HP_0
  have HX_1:=nB hb HX_0
  have HE_1:=nE hb HE_0
  have HL_1:=nL hb HL_0
  clear HK_0 HP_0 HX_0 HE_0 HL_0
  clear hb kX HEN
  dsimp only
  obtain ⟨abN,hab,hab1N⟩:=nb0 HE_1
  have habKN:=nlt HK_1 hab
  have habPN:=nlt HP_1 hab
  have habXN:=nlt HX_1 hab
  obtain ⟨W2,hWn,hba,HN_2⟩:=nb1 (.cells #[.int .i64 0,.bool false] 162) hab
  have HK_2:=nB hba HK_1
  have HP_2:=nB hba HP_1
  have HX_2:=nB hba HX_1
  have HE_2:=nE hba HE_1
  have HL_2:=nL hba HL_1
  clear HK_1 HP_1 HX_1 HE_1 HL_1
  clear hba
  repeat' (first
   |(rw [hWn,hab];clear hWn hab)
   |(refine wpList_store (t:=162) (v:=.agg #[.int .i64 0,.bool false]) (off:=0) (new:=#[.int .i64 0,.bool false]) rfl rfl rfl rfl aggEnd.size HN_2.out rfl (show 0 + 2≤2 by decide) (by intro u hu;simp [Value.cells] at hu;rcases hu with rfl|rfl <;> rfl) rfl ?_;intro W3 hp
     have HE_3:=pE hp HE_2
     have HL_3:Hid (LayAt W3 y bs k):=hU (hl.kept hk0 noWork HE_3.out)
     have HN_3:=pA hp
     have HK_3:=pT hp HN_2 HK_2
     have HP_3:=pT hp HN_2 HP_2
     have HX_3:=pT hp HN_2 HX_2
     clear hp
     clear HK_2 HP_2 HX_2 HN_2 HE_2 HL_2)
   |go_values|go_skip|go_guarded|(with_reducible refine wg ?_)|go_step|go_upon)
  go_ret2
  rw [HW.out]
  exact ⟨rfl,⟨_,_,HK_3.out,HL_3.out⟩,HE_3.out⟩
 |true=>
  obtain ⟨d,e,hg⟩:∃ d e,getFd p x.a.toNat=(d,e):=⟨_,_,rfl⟩
  have hd1:1≤d:=by
   refine Decidable.byContradiction fun h=> ?_
   rw [isEnd_no (.inr (.inl (by rw [hg];show d<1;omega)))] at he
   cases he
  have hdl:d≤k.pipes.length:=by
   refine Decidable.byContradiction fun h=> ?_
   rw [isEnd_no (.inr (.inr (by rw [hg];show (k.pipes.length:Int)<d;omega)))] at he
   cases he
  simp only [endV,he,if_true,hg] at HEN
  cases e
  rotate_left
  · have HW:=hU (show reads k p x=⟨k,0,1⟩ by rw [reads,if_pos (.inr (by rw [hg]))])
    clear he hg hd1 hdl
    go_enter Tryz.func190,Tryz.ntmps190
    repeat' (first
     |(rw [hW0];clear hW0)
     |(refine wpList_load (t:=167) (v:=.agg p.cells) rfl rfl rfl (run_load_whole aggProc HP_0.out rfl) ?_)
     |go_values|go_skip|go_guarded|(with_reducible refine wg ?_)|go_step|go_upon)
    refine (HEN _ ⟨_,_,HK_0.out,HL_0.out⟩).mono ?_
    rintro er W1 ⟨rfl,hb⟩
    have HK_1:=nB hb HK_0
    have HP_1:=nB hb HP_0
    have HX_1:=nB hb HX_0
    have HE_1:=nE hb HE_0
    have HL_1:=nL hb HL_0
    clear HK_0 HP_0 HX_0 HE_0 HL_0
    clear hb kX HEN
    dsimp only
    obtain ⟨abN,hab,hab1N⟩:=nb0 HE_1
    have habKN:=nlt HK_1 hab
    have habPN:=nlt HP_1 hab
    have habXN:=nlt HX_1 hab
    obtain ⟨W2,hWn,hba,HN_2⟩:=nb1 (.cells #[.int .i64 0,.bool false] 162) hab
    have HK_2:=nB hba HK_1
    have HP_2:=nB hba HP_1
    have HX_2:=nB hba HX_1
    have HE_2:=nE hba HE_1
    have HL_2:=nL hba HL_1
    clear HK_1 HP_1 HX_1 HE_1 HL_1
    clear hba
    repeat' (first
     |(rw [hWn,hab];clear hWn hab)
     |(refine wpList_store (t:=162) (v:=.agg #[.int .i64 d,.bool true]) (off:=0) (new:=#[.int .i64 d,.bool true]) rfl rfl rfl rfl aggEnd.size HN_2.out rfl (show 0 + 2≤2 by decide) (by intro u hu;simp [Value.cells] at hu;rcases hu with rfl|rfl <;> rfl) rfl ?_;intro W3 hp
       have HE_3:=pE hp HE_2
       have HL_3:Hid (LayAt W3 y bs k):=hU (hl.kept hk0 noWork HE_3.out)
       have HN_3:=pA hp
       have HK_3:=pT hp HN_2 HK_2
       have HP_3:=pT hp HN_2 HP_2
       have HX_3:=pT hp HN_2 HX_2
       clear hp
       clear HK_2 HP_2 HX_2 HN_2 HE_2 HL_2
       have kN1:W3.cell? ⟨abN,1,none⟩=some (.bool true):=hcell HN_3.out 1)
     |go_values|go_skip|go_guarded|(with_reducible refine wg ?_)|go_step|go_upon)
    go_ret2
    rw [HW.out]
    exact ⟨rfl,⟨_,_,HK_3.out,HL_3.out⟩,HE_3.out⟩
  obtain ⟨so,hso⟩:∃ so,Sg.outS p.mem x.b x.c=so:=⟨_,rfl⟩
  obtain ⟨eo,heo⟩:∃ eo,Sg.outE p.mem x.b x.c=eo:=⟨_,rfl⟩
  have HSO:=hU (fun W=> show Calls Tryz.prog 232 #[.string p.mem,.int .u32 x.b,.int .u32 x.c] W (Is (.tuple #[.string so,.int .i64 eo]) W) by rw [← hso,← heo];exact Seg.Out p.mem x.b x.c W (by omega) hb0 hb1 hc0 hc1)
  have hsz:so.size≤1000000:=by
   rw [← hso]
   unfold Sg.outS
   split
   · rw [ByteArray.size_extract];omega
   · exact Nat.zero_le _
  have HW1:=hU (show reads k p x=if eo ≠ 0 then ⟨k,0,eo⟩ else if (pread (thePipe k p x.a) x.c).2.2 ≠ 0 then ⟨k,0,(pread (thePipe k p x.a) x.c).2.2⟩ else ⟨{k with pipes:=k.pipes.set (d - 1).toNat (pread (thePipe k p x.a) x.c).1,p:=put k.p {p with mem:=Sg.inM p.mem x.b (pread (thePipe k p x.a) x.c).2.1}},((pread (thePipe k p x.a) x.c).2.1.size:Int) % 4294967296,0⟩ by rw [reads,if_neg (by rw [he,hg];simp),heo,hg])
  have HTP:=hU (show thePipe k p x.a=(k.pipes[(d - 1).toNat]?).getD ⟨ByteArray.empty,0,0⟩ by rw [thePipe,hg])
  clear he hg hso heo
  go_enter Tryz.func190,Tryz.ntmps190
  repeat' (first
   |(rw [hW0];clear hW0)
   |(refine wpList_load (t:=167) (v:=.agg p.cells) rfl rfl rfl (run_load_whole aggProc HP_0.out rfl) ?_)
   |go_values|go_skip|go_guarded|(with_reducible refine wg ?_)|go_step|go_upon)
  refine (HEN _ ⟨_,_,HK_0.out,HL_0.out⟩).mono ?_
  rintro er W1 ⟨rfl,hb⟩
  have HK_1:=nB hb HK_0
  have HP_1:=nB hb HP_0
  have HX_1:=nB hb HX_0
  have HE_1:=nE hb HE_0
  have HL_1:=nL hb HL_0
  clear HK_0 HP_0 HX_0 HE_0 HL_0
  clear hb kX HEN
  dsimp only
  obtain ⟨abN,hab,hab1N⟩:=nb0 HE_1
  have habKN:=nlt HK_1 hab
  have habPN:=nlt HP_1 hab
  have habXN:=nlt HX_1 hab
  obtain ⟨W2,hWn,hba,HN_2⟩:=nb1 (.cells #[.int .i64 0,.bool false] 162) hab
  have HK_2:=nB hba HK_1
  have HP_2:=nB hba HP_1
  have HX_2:=nB hba HX_1
  have HE_2:=nE hba HE_1
  have HL_2:=nL hba HL_1
  clear HK_1 HP_1 HX_1 HE_1 HL_1
  clear hba
  repeat' (first
   |(rw [hWn,hab];clear hWn hab)
   |(refine wpList_store (t:=162) (v:=.agg #[.int .i64 d,.bool false]) (off:=0) (new:=#[.int .i64 d,.bool false]) rfl rfl rfl rfl aggEnd.size HN_2.out rfl (show 0 + 2≤2 by decide) (by intro u hu;simp [Value.cells] at hu;rcases hu with rfl|rfl <;> rfl) rfl ?_;intro W3 hp
     have HE_3:=pE hp HE_2
     have HL_3:Hid (LayAt W3 y bs k):=hU (hl.kept hk0 noWork HE_3.out)
     have HN_3:=pA hp
     have HK_3:=pT hp HN_2 HK_2
     have HP_3:=pT hp HN_2 HP_2
     have HX_3:=pT hp HN_2 HX_2
     clear hp
     clear HK_2 HP_2 HX_2 HN_2 HE_2 HL_2
     have kN1:W3.cell? ⟨abN,1,none⟩=some (.bool false):=hcell HN_3.out 1
     have kM:W3.cell? ⟨w.heap.size,12,none⟩=some (.string p.mem):=hcell HP_3.out 12
     have kB:W3.cell? ⟨w.heap.size + 1,2,none⟩=some (.int .u32 x.b):=hcell HX_3.out 2
     have kC:W3.cell? ⟨w.heap.size + 1,3,none⟩=some (.int .u32 x.c):=hcell HX_3.out 3)
   |go_values|go_skip|go_guarded|(with_reducible refine wg ?_)|go_step|go_upon)
  try clear hWn hab
  refine (HSO.out _).mono ?_
  rintro er Wx ⟨rfl,rfl⟩
  clear kN1 kM kB kC HSO
  dsimp only
  by_cases hz:eo=0
  rotate_left
  · have HW:=HW1.out
    rw [if_pos hz] at HW
    have HW2:=hU HW
    have hzb:(eo !=0)=true:=by simp [hz]
    clear HW HW1
    repeat' (first
     |go_values|go_skip|go_guarded|(with_reducible refine wg ?_)|go_step|go_upon)
    go_ret2
    rw [HW2.out]
    exact ⟨rfl,⟨_,_,HK_3.out,HL_3.out⟩,HE_3.out⟩
  subst hz
  have HW:=HW1.out
  rw [if_neg (by simp)] at HW
  have HW2:=hU HW
  clear HW HW1
  obtain ⟨j,hj⟩:∃ j:Nat,d=(j:Int) + 1:=⟨(d - 1).toNat,by omega⟩
  have hdj:(d - 1).toNat=j:=by omega
  rw [hdj] at HW2 HTP
  have hjl:j<k.pipes.length:=by omega
  obtain ⟨pp,hpp⟩:∃ pp,k.pipes[j]? =some pp:=⟨_,List.getElem?_eq_getElem hjl⟩
  have htp:thePipe k p x.a=pp:=by rw [HTP.out,hpp];rfl
  rw [htp] at HW2
  have hpz:=hpd pp (List.mem_of_getElem? hpp)
  clear HTP htp hdj
  obtain ⟨pa,pc,hpa,hpc0,hpc1,h0|⟨gr,og,cur,ha,hgr,hi⟩⟩:=HL_3.out.pi
  · rw [h0] at hjl;exact absurd hjl (Nat.not_lt_zero _)
  subst ha
  have HPA:=hU hpa
  clear hpa
  have HR_3:=hU hgr
  have hjI:d - 1=(j:Int):=by omega
  have hjL:(j:Int)<(k.pipes.length:Int):=by omega
  have hjw:IntKind.i64.wrap (j:Int)=(j:Int):=by rw [IntKind.wrap_i64];omega
  have hj0:(0:Int)≤(j:Int):=by omega
  clear hgr hj hd1 hdl
  obtain ⟨wr,hwr⟩:∃ wr,pread pp x.c=wr:=⟨_,rfl⟩
  have hrs:wr.2.1.size≤1000000:=by
   rw [← hwr]
   unfold pread
   split
   · exact Nat.zero_le _
   · split
     · exact Nat.zero_le _
     · split
       · exact Nat.zero_le _
       · show (pp.data.extract 0 _).size≤_
         rw [ByteArray.size_extract];omega
  have hcw:IntKind.i64.wrap x.c=x.c:=by rw [IntKind.wrap_i64];omega
  have HPW:=hU (fun W=> show Calls Tryz.prog 234 #[.agg pp.cells,.int .i64 x.c] W (Gives (.tuple #[.agg wr.1.cells,.string wr.2.1,.int .i64 wr.2.2]) W) by rw [← hwr];exact PRead pp x.c W (by omega))
  rw [hwr] at HW2
  clear hwr
  obtain ⟨np,nv,ne⟩:=wr
  dsimp only at HPW HW2 hrs
  repeat' (first
   |go_values|go_skip|go_guarded|(with_reducible refine wg ?_)|go_step|go_upon)
  refine wp_region_noPanic ?_
  refine go0 (S:=fun W=> (W.cell? ⟨b,4,none⟩=some (.slice (some ⟨gr,og,none⟩) k.pipes.length pc))∧(W.cell? ⟨abN,0,none⟩=some (.int .i64 d))∧(W.heap[gr]? =some (.cells cur 172 (0,0)))∧(W.cell? ⟨w.heap.size + 1,3,none⟩=some (.int .u32 x.c))) [19] (⟨((hcell HK_3.out 4).trans (congrArg some HPA.out)),hcell HN_3.out 0,HR_3.out,hcell HX_3.out 3⟩) fun hS=> ?_
  obtain ⟨W4,hWd⟩:=exW W3.drew
  have HK_4:=dB hWd HK_3
  have HP_4:=dB hWd HP_3
  have HX_4:=dB hWd HX_3
  have HN_4:=dB hWd HN_3
  have HR_4:=dB hWd HR_3
  have HE_4:=dE hWd HE_3
  have HL_4:=dL hWd HL_3
  rw [hWd] at hS ⊢
  clear hWd
  clear HK_3 HP_3 HX_3 HN_3 HR_3 HE_3 HL_3
  refine tp 0 ?_;try simp only [acts]
  refine tp 1 ?_;try simp only [acts]
  refine tp 2 ?_;try simp only [acts]
  refine tp 3 ?_;try simp only [acts]
  refine tl 4 ?_;try simp only [acts]
  refine tp 5 ?_;try simp only [acts]
  refine tl 6 ?_;try simp only [acts]
  refine tp 7 ?_;try simp only [acts]
  refine tp 8 ?_;try simp only [acts]
  refine tv 9 (.agg pp.cells) (fun W hSW=> run_val_load rfl rfl (run_load_arr (o:=og + j * 3) aggPipe rfl (fun _ u hu=> (hcell hSW.2.2.1 _).trans (hi _ _ hpp _ u hu)))) ?_
  (try simp only [acts])
  refine tp 10 ?_;try simp only [acts]
  refine tl 11 ?_;try simp only [acts]
  refine tp 12 ?_;try simp only [acts]
  refine twoL (i:=13) (j:=18) (by kernel_rfl) rfl rfl (fun K hK=> ?_) (fun K hK=> ?_)
  refine want rfl ?_
  go_simp
  refine (HPW.out _).mono ?_
  rintro er W5 ⟨rfl,hb⟩
  have HK_5:=nB hb HK_4
  have HP_5:=nB hb HP_4
  have HX_5:=nB hb HX_4
  have HN_5:=nB hb HN_4
  have HR_5:=nB hb HR_4
  have HE_5:=nE hb HE_4
  have HL_5:=nL hb HL_4
  clear HK_4 HP_4 HX_4 HN_4 HR_4 HE_4 HL_4
  clear hb
  dsimp only
  try clear hS
  refine nx hK (⟨((hcell HK_5.out 4).trans (congrArg some HPA.out)),hcell HN_5.out 0,HR_5.out,hcell HX_5.out 3⟩) fun hS=> ?_
  clear hK K
  (try simp only [acts])
  refine tp 14 ?_;try simp only [acts]
  refine tp 15 ?_;try simp only [acts]
  refine tp 16 ?_;try simp only [acts]
  refine tp 17 ?_;try simp only [acts]
  refine ro 18 fun K hK=> ?_
  obtain ⟨abG,hab,hab1⟩:=nb0 HE_5
  have habK:=nlt HK_5 hab
  have habP:=nlt HP_5 hab
  have habX:=nlt HX_5 hab
  have habN:=nlt HN_5 hab
  have habR:=nlt HR_5 hab
  have hoffG:=HL_5.out.pi.offNew (Nat.le_of_eq hab)
  go_simp
  obtain ⟨W6,hWn,hba,HG_6⟩:=nb1 (.cells #[.string ⟨#[]⟩,.int .i64 0,.int .i64 0] 172) hab
  rw [hWn]
  clear hWn
  have HK_6:=nB hba HK_5
  have HP_6:=nB hba HP_5
  have HX_6:=nB hba HX_5
  have HN_6:=nB hba HN_5
  have HR_6:=nB hba HR_5
  have HE_6:=nE hba HE_5
  have HL_6:=nL hba HL_5
  clear HK_5 HP_5 HX_5 HN_5 HR_5 HE_5 HL_5
  clear hba
  try rw [hab]
  clear hab
  try clear hS
  refine nx hK (⟨((hcell HK_6.out 4).trans (congrArg some HPA.out)),hcell HN_6.out 0,HR_6.out,hcell HX_6.out 3⟩) fun hS=> ?_
  clear hK K
  (try simp only [acts])
  rotate_left
  obtain ⟨abG,hab,hab1⟩:=nb0 HE_4
  have habK:=nlt HK_4 hab
  have habP:=nlt HP_4 hab
  have habX:=nlt HX_4 hab
  have habN:=nlt HN_4 hab
  have habR:=nlt HR_4 hab
  have hoffG:=HL_4.out.pi.offNew (Nat.le_of_eq hab)
  go_simp
  obtain ⟨W5,hWn,hba,HG_5⟩:=nb1 (.cells #[.string ⟨#[]⟩,.int .i64 0,.int .i64 0] 172) hab
  rw [hWn]
  clear hWn
  have HK_5:=nB hba HK_4
  have HP_5:=nB hba HP_4
  have HX_5:=nB hba HX_4
  have HN_5:=nB hba HN_4
  have HR_5:=nB hba HR_4
  have HE_5:=nE hba HE_4
  have HL_5:=nL hba HL_4
  clear HK_4 HP_4 HX_4 HN_4 HR_4 HE_4 HL_4
  clear hba
  try rw [hab]
  clear hab
  try clear hS
  refine nx hK (⟨((hcell HK_5.out 4).trans (congrArg some HPA.out)),hcell HN_5.out 0,HR_5.out,hcell HX_5.out 3⟩) fun hS=> ?_
  clear hK K
  (try simp only [acts])
  refine ro 13 fun K hK=> ?_
  refine want rfl ?_
  go_simp
  refine (HPW.out _).mono ?_
  rintro er W6 ⟨rfl,hb⟩
  have HK_6:=nB hb HK_5
  have HP_6:=nB hb HP_5
  have HX_6:=nB hb HX_5
  have HN_6:=nB hb HN_5
  have HR_6:=nB hb HR_5
  have HG_6:=nB hb HG_5
  have HE_6:=nE hb HE_5
  have HL_6:=nL hb HL_5
  clear HK_5 HP_5 HX_5 HN_5 HR_5 HG_5 HE_5 HL_5
  clear hb
  dsimp only
  try clear hS
  refine nx hK (⟨((hcell HK_6.out 4).trans (congrArg some HPA.out)),hcell HN_6.out 0,HR_6.out,hcell HX_6.out 3⟩) fun hS=> ?_
  clear hK K
  (try simp only [acts])
  refine tp 14 ?_;try simp only [acts]
  refine tp 15 ?_;try simp only [acts]
  refine tp 16 ?_;try simp only [acts]
  refine tp 17 ?_;try simp only [acts]
  all_goals
   refine ro 19 fun K hK=> ?_
   refine want rfl ?_
   refine wp_store (v:=.agg np.cells) (off:=0) (new:=np.cells) rfl rfl rfl aggPipe.size HG_6.out rfl (show 0 + 3≤3 by decide) (onesPp np) rfl ?_
   intro W7 hp
   have HE_7:=pE hp HE_6
   have HL_7:Hid (LayAt W7 y bs k):=hU (HL_6.out.putPipe (HL_6.out.pi.putOff hoffG hp) HG_6.out hp)
   have HG_7:=pA hp
   have HK_7:=pT hp HG_6 HK_6
   have HP_7:=pT hp HG_6 HP_6
   have HX_7:=pT hp HG_6 HX_6
   have HN_7:=pT hp HG_6 HN_6
   have HR_7:=pO hp HR_6
   clear hp
   clear HK_6 HP_6 HX_6 HN_6 HR_6 HG_6 HE_6 HL_6
   refine nt hK ?_
   clear hK K
   try clear hS
   (try simp only [acts])
   refine ro 20 fun K hK=> ?_
   go_simp
   refine nb hK ?_
   clear hK K
   (try simp only [acts])
   refine ro 21 fun K hK=> ?_
   go_simp
   refine nb hK ?_
   clear hK K
   (try simp only [acts])
   refine doneL (by kernel_rfl) (NoPanic.normal ?_) _
   try clear hS
   by_cases hz:ne=0
   rotate_left
   · have HW:=HW2.out
     rw [if_pos hz] at HW
     have HW3:=hU HW
     have hzb:(ne !=0)=true:=by simp [hz]
     clear HW HW2
     repeat' (first
      |go_values|go_skip|go_guarded|(with_reducible refine wg ?_)|go_step|go_upon)
     go_ret2
     rw [HW3.out]
     exact ⟨rfl,⟨_,_,HK_7.out,HL_7.out⟩,HE_7.out⟩
   subst hz
   have HW:=HW2.out
   rw [if_neg (by simp)] at HW
   have HW3:=hU HW
   clear HW HW2
   clear HR_7
   obtain ⟨mm,hmm⟩:∃ mm,Sg.inM p.mem x.b nv=mm:=⟨_,rfl⟩
   obtain ⟨me,hme⟩:∃ me,Sg.inE p.mem x.b nv=me:=⟨_,rfl⟩
   have HIN:=hU (fun W=> show Calls Tryz.prog 235 #[.string p.mem,.int .u32 x.b,.string nv] W (Gives (.tuple #[.string mm,.int .i64 me]) W) by rw [← hmm,← hme];exact Seg.In p.mem x.b nv W (by omega) (by omega) hb0 hb1)
   rw [hmm] at HW3
   clear hmm hme
   have kM:W7.cell? ⟨w.heap.size,12,none⟩=some (.string p.mem):=hcell HP_7.out 12
   have kB:W7.cell? ⟨w.heap.size + 1,2,none⟩=some (.int .u32 x.b):=hcell HX_7.out 2
   repeat' (first
    |go_values|go_skip|go_guarded|(with_reducible refine wg ?_)|go_step|go_upon)
   refine (HIN.out _).mono ?_
   rintro er W8 ⟨rfl,hb⟩
   have HK_8:=nB hb HK_7
   have HP_8:=nB hb HP_7
   have HX_8:=nB hb HX_7
   have HN_8:=nB hb HN_7
   have HG_8:=nB hb HG_7
   have HE_8:=nE hb HE_7
   have HL_8:=nL hb HL_7
   clear HK_7 HP_7 HX_7 HN_7 HG_7 HE_7 HL_7
   clear hb kM kB
   dsimp only
   repeat' (first
    |(refine wpList_store1 (t:=9) (v:=.string mm) (off:=12) (new:=({p with mem:=mm}:Proc).cells) rfl rfl rfl rfl oneStr HP_8.out rfl rfl (show 12 + 1≤26 by decide) rfl ?_;intro W9 hp
      have HE_9:=pE hp HE_8
      have HL_9:Hid (LayAt W9 y bs k):=hU (HL_8.out.putProc (HL_8.out.p.putOff (hl.p.offNew (Nat.le_refl _)) hp) HP_8.out hp)
      have HP_9:=pA hp
      have HK_9:=pT hp HP_8 HK_8
      have HX_9:=pT hp HP_8 HX_8
      have HN_9:=pT hp HP_8 HN_8
      have HG_9:=pT hp HP_8 HG_8
      clear hp
      clear HK_8 HP_8 HX_8 HN_8 HG_8 HE_8 HL_8
      have kP4:W9.cell? ⟨b,4,none⟩=some y.pi:=hcell HK_9.out 4)
    |go_values|go_skip|go_guarded|(with_reducible refine wg ?_)|go_step|go_upon)
   have hG6:=hlt HG_9.out
   have hE6:=HE_9.out.size
   refine (clonePipe y.pi k.pipes _ HL_9.out.pi (by omega)).mono ?_
   rintro er W10 ⟨vc,rfl,ho,hb⟩
   have HK_10:=nB hb HK_9
   have HP_10:=nB hb HP_9
   have HX_10:=nB hb HX_9
   have HN_10:=nB hb HN_9
   have HG_10:=nB hb HG_9
   have HE_10:=nE hb HE_9
   have HL_10:=nL hb HL_9
   clear HK_9 HP_9 HX_9 HN_9 HG_9 HE_9 HL_9
   clear hb kP4
   have hne:k.pipes ≠ []:=fun h=> by rw [h] at hjl;exact Nat.not_lt_zero _ hjl
   obtain ⟨gc,cap,cur2,rfl,hB,hrow⟩:=Own.row ho hne
   clear ho hne
   dsimp only
   have hrc:=hrow.2
   have hcap:=hrc.1
   have hcsz:=hrc.2.2.1
   have HC_10:=hU hrow.1
   clear hrow
   have hcs:∀ W:World,W.heap[gc]? =some (.cells cur2 172 (0,0))→SlPp W (.slice (some ⟨gc,0,none⟩) k.pipes.length cap) k.pipes:=fun W h=> KR.Own.sl szPipe (Row.own szPipe (cap:=cap) (cur:=cur2) ⟨h,hrc⟩ (Nat.zero_le gc))
   repeat' (first
    |(refine wpList_store1 (t:=47) (v:=(.slice (some ⟨gc,0,none⟩) k.pipes.length cap)) (off:=4) (new:=kcells {y with pi:=(.slice (some ⟨gc,0,none⟩) k.pipes.length cap)} k) rfl rfl rfl rfl oneSPipe HK_10.out (hcs _ HC_10.out).vcells (hcs _ HC_10.out).vone (show 4 + 1≤17 by decide) rfl ?_;intro W11 hp
      have HL_11:Hid (LayAt W11 {y with pi:=(.slice (some ⟨gc,0,none⟩) k.pipes.length cap)} bs k):=hU ((HL_10.out.setPi (hcs _ HC_10.out)).put HK_10.out noWork hp)
      have HE_11:=pK hp HE_10
      have HK_11:Hid (W11.heap[b]? =some (.cells (kcells {y with pi:=(.slice (some ⟨gc,0,none⟩) k.pipes.length cap)} k) 178 (0,0))):=pA hp
      have HP_11:=pT hp HK_10 HP_10
      have HX_11:=pT hp HK_10 HX_10
      have HN_11:=pT hp HK_10 HN_10
      have HG_11:=pT hp HK_10 HG_10
      have HC_11:=pT hp HK_10 HC_10
      clear hp
      clear HK_10 HP_10 HX_10 HN_10 HG_10 HC_10 HE_10 HL_10)
    |go_values|go_skip|go_guarded|(with_reducible refine wg ?_)|go_step|go_upon)
   refine wp_region_noPanic ?_
   refine go0 (S:=fun W=> (W.cell? ⟨b,4,none⟩=some (.slice (some ⟨gc,0,none⟩) k.pipes.length cap))∧(W.cell? ⟨abN,0,none⟩=some (.int .i64 d))∧(W.heap[abG]? =some (.cells np.cells 172 (0,0)))) [10] (⟨hcell HK_11.out 4,hcell HN_11.out 0,HG_11.out⟩) fun hS=> ?_
   obtain ⟨W12,hWd⟩:=exW W11.drew
   have HK_12:=dB hWd HK_11
   have HP_12:=dB hWd HP_11
   have HX_12:=dB hWd HX_11
   have HN_12:=dB hWd HN_11
   have HG_12:=dB hWd HG_11
   have HC_12:=dB hWd HC_11
   have HE_12:=dE hWd HE_11
   have HL_12:=dL hWd HL_11
   rw [hWd] at hS ⊢
   clear hWd
   clear HK_11 HP_11 HX_11 HN_11 HG_11 HC_11 HE_11 HL_11
   refine tp 0 ?_;try simp only [acts]
   refine tp 1 ?_;try simp only [acts]
   refine tp 2 ?_;try simp only [acts]
   refine tp 3 ?_;try simp only [acts]
   refine tl 4 ?_;try simp only [acts]
   refine tp 5 ?_;try simp only [acts]
   refine tl 6 ?_;try simp only [acts]
   refine tp 7 ?_;try simp only [acts]
   refine tv 8 (.agg np.cells) (fun W hSW=> run_val_load rfl rfl (run_load_whole aggPipe hSW.2.2 rfl)) ?_
   (try simp only [acts])
   refine tp 9 ?_;try simp only [acts]
   refine ro 10 fun K hK=> ?_
   refine want rfl ?_
   refine wp_store (v:=.agg np.cells) (off:=j * 3) (new:=(splice cur2 (j * 3) np.cells)) rfl rfl rfl aggPipe.size HC_12.out rfl (by omega) (onesPp np) rfl ?_
   intro W13 hp
   have HE_13:=pE hp HE_12
   have HL_13:Hid (LayAt W13 {y with pi:=(.slice (some ⟨gc,0,none⟩) k.pipes.length cap)} bs {k with pipes:=k.pipes.set j np}):=hU (HL_12.out.putPipe (row_set HC_12.out hrc hjl hp) HC_12.out hp)
   have HC_13:=pA hp
   have HK_13:=pT hp HC_12 HK_12
   have HP_13:=pT hp HC_12 HP_12
   have HX_13:=pT hp HC_12 HX_12
   have HN_13:=pT hp HC_12 HN_12
   have HG_13:=pO hp HG_12
   clear hp
   clear HK_12 HP_12 HX_12 HN_12 HG_12 HC_12 HE_12 HL_12
   refine nt hK ?_
   clear hK K
   try clear hS
   (try simp only [acts])
   refine doneL (by kernel_rfl) (NoPanic.normal ?_) _
   try clear hS
   repeat' (first|go_values|go_skip|go_guarded|(with_reducible refine wg ?_)|go_step|go_upon)
   refine wp_region_noPanic ?_
   refine go0 (S:=fun W=> (W.cell? ⟨b,0,none⟩=some y.p)∧(W.heap[w.heap.size]? =some (.cells ({p with mem:=mm}:Proc).cells 167 (0,0)))) [11] (⟨hcell HK_13.out 0,HP_13.out⟩) fun hS=> ?_
   obtain ⟨W14,hWd⟩:=exW W13.drew
   have HK_14:=dB hWd HK_13
   have HP_14:=dB hWd HP_13
   have HX_14:=dB hWd HX_13
   have HN_14:=dB hWd HN_13
   have HG_14:=dB hWd HG_13
   have HC_14:=dB hWd HC_13
   have HE_14:=dE hWd HE_13
   have HL_14:=dL hWd HL_13
   rw [hWd] at hS ⊢
   clear hWd
   clear HK_13 HP_13 HX_13 HN_13 HG_13 HC_13 HE_13 HL_13
   refine tp 0 ?_;try simp only [acts]
   refine tp 1 ?_;try simp only [acts]
   refine tp 2 ?_;try simp only [acts]
   refine tp 3 ?_;try simp only [acts]
   refine tp 4 ?_;try simp only [acts]
   refine tl 5 ?_;try simp only [acts]
   refine tv 6 (.agg ({p with mem:=mm}:Proc).cells) (fun W hSW=> run_val_load rfl rfl (run_load_whole aggProc hSW.2 rfl)) ?_
   (try simp only [acts])
   refine ro 7 fun K hK=> ?_
   refine want rfl ?_
   go_simp
   refine (TPut y.p k.p ({p with mem:=mm}:Proc) _ HL_14.out.p (by omega)).mono ?_
   rintro er W15 ⟨v6,rfl,ho,hb⟩
   have HK_15:=nB hb HK_14
   have HP_15:=nB hb HP_14
   have HX_15:=nB hb HX_14
   have HN_15:=nB hb HN_14
   have HG_15:=nB hb HG_14
   have HC_15:=nB hb HC_14
   have HE_15:=nE hb HE_14
   have HL_15:=nL hb HL_14
   clear HK_14 HP_14 HX_14 HN_14 HG_14 HC_14 HE_14 HL_14
   clear hb
   have SP_15:=hU (KR.Own.sl szProc ho)
   dsimp only
   try clear hS
   refine nx hK (⟨hcell HK_15.out 0,HP_15.out⟩) fun hS=> ?_
   clear hK K
   (try simp only [acts])
   refine tp 8 ?_;try simp only [acts]
   refine tp 9 ?_;try simp only [acts]
   refine tp 10 ?_;try simp only [acts]
   refine ro 11 fun K hK=> ?_
   refine want rfl ?_
   refine wp_store1 (v:=v6) (off:=0) (new:=kcells {y with pi:=(.slice (some ⟨gc,0,none⟩) k.pipes.length cap),p:=v6} {k with pipes:=k.pipes.set j np,p:=put k.p ({p with mem:=mm}:Proc)}) rfl rfl rfl oneSProc HK_15.out SP_15.out.vcells SP_15.out.vone (show 0 + 1≤17 by decide) rfl ?_
   intro W16 hp
   have HL_16:Hid (LayAt W16 {y with pi:=(.slice (some ⟨gc,0,none⟩) k.pipes.length cap),p:=v6} bs {k with pipes:=k.pipes.set j np,p:=put k.p ({p with mem:=mm}:Proc)}):=hU ((HL_15.out.setP SP_15.out).put HK_15.out noWork hp)
   have HE_16:=pK hp HE_15
   have HK_16:Hid (W16.heap[b]? =some (.cells (kcells {y with pi:=(.slice (some ⟨gc,0,none⟩) k.pipes.length cap),p:=v6} {k with pipes:=k.pipes.set j np,p:=put k.p ({p with mem:=mm}:Proc)}) 178 (0,0))):=pA hp
   have HP_16:=pT hp HK_15 HP_15
   have HX_16:=pT hp HK_15 HX_15
   have HN_16:=pT hp HK_15 HN_15
   have HG_16:=pT hp HK_15 HG_15
   have HC_16:=pT hp HK_15 HC_15
   have SP_16:=hU (SP_15.out.put HK_15.out hp (by decide))
   clear hp
   clear HK_15 HP_15 HX_15 HN_15 HG_15 HC_15 HE_15 HL_15 SP_15
   refine nt hK ?_
   clear hK K
   try clear hS
   (try simp only [acts])
   refine doneL (by kernel_rfl) (NoPanic.normal ?_) _
   try clear hS
   repeat' (first|go_values|go_skip|go_guarded|(with_reducible refine wg ?_)|go_step|go_upon)
   go_ret2
   rw [HW3.out]
   exact ⟨congrArg (fun z=> Ending.returned (.tuple #[.int .u32 z,.int .i64 0])) (Int.emod_eq_of_lt (a:=(nv.size:Int)) (b:=4294967296) (by omega) (by omega)).symm,⟨_,_,HK_16.out,HL_16.out⟩,HE_16.out⟩
end Kn
end Go.Proofs.YtkepkcjjenidgaaGreatDoor
