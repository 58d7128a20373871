/- kern.sends. Conditions: as many as Go can hold; words' numbers. -/
import Derived.Test.YtkepkcjjenidgaaGreatDoorGWork
import Derived.Test.YtkepkcjjenidgaaGreatDoorGSeg
import Derived.Test.YtkepkcjjenidgaaGreatDoorGRo
set_option linter.unusedVariables false
set_option maxRecDepth 100000
set_option maxHeartbeats 8000000
set_option linter.unusedSimpArgs false
namespace Go.Proofs.YtkepkcjjenidgaaGreatDoor
open Go.RowKit KR RegT3
namespace Kn
theorem clipOut (a:Option Addr) (n c:Nat) (w:World) (h:n≤c):Calls Tryz.prog 236 #[.slice a n c] w (Gives (.slice a n n) w):=by
 go_enter Tryz.func236,Tryz.ntmps236
 repeat' (first|go_values|go_skip|go_guarded|(with_reducible refine wg ?_)|go_step|go_upon)
 go_ret
 exact ⟨rfl,Below.refl _ _⟩
theorem WSends (b:Nat) (k:Kern) (p:Proc) (x:Call) (w:World) (hk:WorkAt w b k) (hsl:k.sent.length≤1000000) (hm:p.mem.size≤1000000) (ha0:0≤x.a) (ha1:x.a<4294967296) (hb0:0≤x.b) (hb1:x.b<4294967296) (hc0:0≤x.c) (hc1:x.c<4294967296):
 Calls Tryz.prog 192 #[.pointer (some ⟨b,0,none⟩),.agg p.cells,.agg x.cells] w (GivesW b (.tuple #[.int .u32 (sends k p x).v,.int .i64 (sends k p x).e]) (sends k p x).k w):=by
 obtain ⟨y,bs,hk0,hl⟩:=hk
 have hbl:=hlt hk0
 obtain ⟨xn,xa,xb,xc⟩:=x
 dsimp only at ha0 ha1 hb0 hb1 hc0 hc1
 obtain ⟨j,rfl⟩:∃ j:Nat,xa=(j:Int):=⟨xa.toNat,by omega⟩
 obtain ⟨oa,oc,hoa,hoc,_⟩:=hl.ou.shape
 have HOA:=hU hoa
 clear hoa
 obtain ⟨W0,hW0,HK_0,HP_0,HX_0,HE_0,HL_0,hz0,hzK,hzP,hzX⟩:=st2 p.cells 167 (⟨xn,(j:Int),xb,xc⟩:Call).cells 165 hk0 hl
 have hwj:IntKind.u64.wrap (j:Int)=(j:Int):=by rw [IntKind.wrap_u64];omega
 have hji:IntKind.i64.wrap (j:Int)=(j:Int):=by rw [IntKind.wrap_i64];omega
 have hj0:(0:Int)≤(j:Int):=by omega
 have hlu:IntKind.u64.wrap (k.outs.length:Int)=(k.outs.length:Int):=by rw [IntKind.wrap_u64];omega
 cases hj:k.outs[j]? with
 |none=>
  have hW:sends k p (⟨xn,(j:Int),xb,xc⟩:Call)=⟨k,0,7⟩:=by rw [sends];simp only [Int.toNat_natCast];rw [hj]
  have HW:=hU hW
  clear hW
  have hjl:k.outs.length≤j:=List.getElem?_eq_none_iff.1 hj
  clear hj
  have hjI:(k.outs.length:Int)≤(j:Int):=by omega
  go_enter Tryz.func192,Tryz.ntmps192
  repeat' (first
   |(rw [hW0];clear hW0)
   |go_values|go_skip|go_guarded|(with_reducible refine wg ?_)|go_step|go_upon)
  refine wp_region_noPanic ?_
  refine go0 (S:=fun W=> (W.cell? ⟨b,9,none⟩=some (.slice oa k.outs.length oc))∧(W.cell? ⟨w.heap.size + 1,1,none⟩=some (.int .u32 (j:Int)))) [] (⟨((hcell HK_0.out 9).trans (congrArg some HOA.out)),hcell HX_0.out 1⟩) fun hS=> ?_
  obtain ⟨W1,hWd⟩:=exW W0.drew
  have HK_1:=dB hWd HK_0
  have HP_1:=dB hWd HP_0
  have HX_1:=dB hWd HX_0
  have HE_1:=dE hWd HE_0
  have HL_1:=dL hWd HL_0
  rw [hWd] at hS ⊢
  clear hWd
  clear HK_0 HP_0 HX_0 HE_0 HL_0
  refine tp 0 ?_;try simp only [acts]
  refine tl 1 ?_;try simp only [acts]
  refine tp 2 ?_;try simp only [acts]
  refine tp 3 ?_;try simp only [acts]
  refine tp 4 ?_;try simp only [acts]
  refine tp 5 ?_;try simp only [acts]
  refine tp 6 ?_;try simp only [acts]
  refine tl 7 ?_;try simp only [acts]
  refine tp 8 ?_;try simp only [acts]
  refine tp 9 ?_;try simp only [acts]
  refine tp 10 ?_;try simp only [acts]
  refine doneL (by kernel_rfl) (NoPanic.normal ?_) _
  try clear hS
  repeat' (first|go_values|go_skip|go_guarded|(with_reducible refine wg ?_)|go_step|go_upon)
  go_ret2
  rw [HW.out]
  exact ⟨rfl,⟨_,_,HK_1.out,HL_1.out⟩,HE_1.out⟩
 |some c=>
  obtain ⟨so,hso⟩:∃ so,Sg.outS p.mem xb xc=so:=⟨_,rfl⟩
  obtain ⟨eo,heo⟩:∃ eo,Sg.outE p.mem xb xc=eo:=⟨_,rfl⟩
  have HSO:=hU (fun W=> show Calls Tryz.prog 232 #[.string p.mem,.int .u32 xb,.int .u32 xc] W (Is (.tuple #[.string so,.int .i64 eo]) W) by rw [← hso,← heo];exact Seg.Out p.mem xb xc W (by omega) hb0 hb1 hc0 hc1)
  have hsz:so.size≤1000000:=by
   rw [← hso]
   unfold Sg.outS
   split
   · rw [ByteArray.size_extract];omega
   · exact Nat.zero_le _
  have hW:sends k p (⟨xn,(j:Int),xb,xc⟩:Call)=if eo ≠ 0 then ⟨k,0,eo⟩ else if c.size<so.size then ⟨k,0,4⟩ else ⟨{k with sent:=k.sent ++ [⟨(j:Int),so⟩]},0,0⟩:=by rw [sends];simp only [Int.toNat_natCast];rw [hj];simp only [hso,heo]
  have HW:=hU hW
  clear hW
  have hjl:j<k.outs.length:=(List.getElem?_eq_some_iff.1 hj).1
  have hjI:(j:Int)<(k.outs.length:Int):=by omega
  have hjN:¬ k.outs.length≤j:=by omega
  obtain ⟨pa,pc,hpa,hpc0,hpc1,h0|⟨gr,og,cur,ha,hgr,hi⟩⟩:=HL_0.out.ou
  · rw [h0] at hjl;exact absurd hjl (Nat.not_lt_zero _)
  rw [HOA.out] at hpa
  injection hpa with hpa hpn hpc
  clear hpn
  subst hpa hpc
  subst ha
  have hcz:=hi _ _ hj 3 (.int .i64 c.size) rfl
  clear hj hi hso heo
  have HR_0:=hU hgr
  clear hgr
  go_enter Tryz.func192,Tryz.ntmps192
  repeat' (first
   |(rw [hW0];clear hW0)
   |go_values|go_skip|go_guarded|(with_reducible refine wg ?_)|go_step|go_upon)
  refine wp_region_noPanic ?_
  refine go0 (S:=fun W=> (W.cell? ⟨b,9,none⟩=some (.slice (some ⟨gr,og,none⟩) k.outs.length oc))∧(W.cell? ⟨w.heap.size + 1,1,none⟩=some (.int .u32 (j:Int)))) [] (⟨((hcell HK_0.out 9).trans (congrArg some HOA.out)),hcell HX_0.out 1⟩) fun hS=> ?_
  obtain ⟨W1,hWd⟩:=exW W0.drew
  have HK_1:=dB hWd HK_0
  have HP_1:=dB hWd HP_0
  have HX_1:=dB hWd HX_0
  have HR_1:=dB hWd HR_0
  have HE_1:=dE hWd HE_0
  have HL_1:=dL hWd HL_0
  rw [hWd] at hS ⊢
  clear hWd
  clear HK_0 HP_0 HX_0 HR_0 HE_0 HL_0
  refine tp 0 ?_;try simp only [acts]
  refine tl 1 ?_;try simp only [acts]
  refine tp 2 ?_;try simp only [acts]
  refine tp 3 ?_;try simp only [acts]
  refine tp 4 ?_;try simp only [acts]
  refine tp 5 ?_;try simp only [acts]
  refine tp 6 ?_;try simp only [acts]
  refine tl 7 ?_;try simp only [acts]
  refine tp 8 ?_;try simp only [acts]
  refine tp 9 ?_;try simp only [acts]
  refine tp 10 ?_;try simp only [acts]
  refine doneL (by kernel_rfl) (NoPanic.normal ?_) _
  try clear hS
  have kM:W1.cell? ⟨w.heap.size,12,none⟩=some (.string p.mem):=hcell HP_1.out 12
  have kB:W1.cell? ⟨w.heap.size + 1,2,none⟩=some (.int .u32 xb):=hcell HX_1.out 2
  have kC:W1.cell? ⟨w.heap.size + 1,3,none⟩=some (.int .u32 xc):=hcell HX_1.out 3
  repeat' (first
   |go_values|go_skip|go_guarded|(with_reducible refine wg ?_)|go_step|go_upon)
  refine (HSO.out _).mono ?_
  rintro er Wx ⟨rfl,rfl⟩
  clear kM kB kC HSO
  dsimp only
  by_cases hz:eo=0
  rotate_left
  · have HW1:=HW.out
    rw [if_pos hz] at HW1
    have HW2:=hU HW1
    have hzb:(eo !=0)=true:=by simp [hz]
    clear HW1 HW
    repeat' (first
     |go_values|go_skip|go_guarded|(with_reducible refine wg ?_)|go_step|go_upon)
    go_ret2
    rw [HW2.out]
    exact ⟨rfl,⟨_,_,HK_1.out,HL_1.out⟩,HE_1.out⟩
  subst hz
  have HW1:=HW.out
  rw [if_neg (by simp)] at HW1
  clear HW
  repeat' (first
   |go_values|go_skip|go_guarded|(with_reducible refine wg ?_)|go_step|go_upon)
  refine wp_region_noPanic ?_
  refine go0 (S:=fun W=> (W.cell? ⟨b,9,none⟩=some (.slice (some ⟨gr,og,none⟩) k.outs.length oc))∧(W.cell? ⟨w.heap.size + 1,1,none⟩=some (.int .u32 (j:Int)))∧(W.cell? ⟨gr,og + j * 5 + 3,none⟩=some (.int .i64 c.size))) [] (⟨((hcell HK_1.out 9).trans (congrArg some HOA.out)),hcell HX_1.out 1,((hcell HR_1.out _).trans hcz)⟩) fun hS=> ?_
  obtain ⟨W2,hWd⟩:=exW W1.drew
  have HK_2:=dB hWd HK_1
  have HP_2:=dB hWd HP_1
  have HX_2:=dB hWd HX_1
  have HR_2:=dB hWd HR_1
  have HE_2:=dE hWd HE_1
  have HL_2:=dL hWd HL_1
  rw [hWd] at hS ⊢
  clear hWd
  clear HK_1 HP_1 HX_1 HR_1 HE_1 HL_1
  refine tp 0 ?_;try simp only [acts]
  refine tp 1 ?_;try simp only [acts]
  refine tp 2 ?_;try simp only [acts]
  refine tp 3 ?_;try simp only [acts]
  refine tp 4 ?_;try simp only [acts]
  refine tp 5 ?_;try simp only [acts]
  refine tl 6 ?_;try simp only [acts]
  refine tp 7 ?_;try simp only [acts]
  refine tl 8 ?_;try simp only [acts]
  refine tp 9 ?_;try simp only [acts]
  refine tp 10 ?_;try simp only [acts]
  refine tl 11 ?_;try simp only [acts]
  refine tp 12 ?_;try simp only [acts]
  refine tp 13 ?_;try simp only [acts]
  refine doneL (by kernel_rfl) (NoPanic.normal ?_) _
  try clear hS
  by_cases hsz4:c.size<(so.size:Int)
  · rw [if_pos hsz4] at HW1
    have HW2:=hU HW1
    rw [decide_eq_true hsz4]
    clear HW1 hsz4
    repeat' (first
     |go_values|go_skip|go_guarded|(with_reducible refine wg ?_)|go_step|go_upon)
    go_ret2
    rw [HW2.out]
    exact ⟨rfl,⟨_,_,HK_2.out,HL_2.out⟩,HE_2.out⟩
  rw [if_neg hsz4] at HW1
  have HW2:=hU HW1
  rw [decide_eq_false hsz4]
  clear HW1 hsz4
  repeat' (first
   |go_values|go_skip|go_guarded|(with_reducible refine wg ?_)|go_step|go_upon)
  obtain ⟨ta,tc,htr,htc,_⟩:=HL_2.out.se.shape
  have HTR:=hU htr
  clear htr
  refine wp_region_noPanic ?_
  refine go0 (S:=fun W=> (W.cell? ⟨b,14,none⟩=some (.slice ta k.sent.length tc))∧(W.cell? ⟨w.heap.size + 1,1,none⟩=some (.int .u32 (j:Int)))) [17] (⟨((hcell HK_2.out 14).trans (congrArg some HTR.out)),hcell HX_2.out 1⟩) fun hS=> ?_
  obtain ⟨W3,hWd⟩:=exW W2.drew
  have HK_3:=dB hWd HK_2
  have HP_3:=dB hWd HP_2
  have HX_3:=dB hWd HX_2
  have HR_3:=dB hWd HR_2
  have HE_3:=dE hWd HE_2
  have HL_3:=dL hWd HL_2
  rw [hWd] at hS ⊢
  clear hWd
  clear HK_2 HP_2 HX_2 HR_2 HE_2 HL_2
  refine tp 0 ?_;try simp only [acts]
  refine tp 1 ?_;try simp only [acts]
  refine tp 2 ?_;try simp only [acts]
  refine tp 3 ?_;try simp only [acts]
  refine tp 4 ?_;try simp only [acts]
  refine tl 5 ?_;try simp only [acts]
  refine tp 7 ?_;try simp only [acts]
  refine tl 8 ?_;try simp only [acts]
  refine tp 9 ?_;try simp only [acts]
  refine tp 10 ?_;try simp only [acts]
  refine tp 11 ?_;try simp only [acts]
  refine twoL (i:=6) (j:=12) (by kernel_rfl) rfl rfl (fun K hK=> ?_) (fun K hK=> ?_)
  refine want rfl ?_
  go_simp
  refine (clipOut _ _ _ _ htc).mono ?_
  rintro er W4 ⟨rfl,hb⟩
  have HK_4:=nB hb HK_3
  have HP_4:=nB hb HP_3
  have HX_4:=nB hb HX_3
  have HR_4:=nB hb HR_3
  have HE_4:=nE hb HE_3
  have HL_4:=nL hb HL_3
  clear HK_3 HP_3 HX_3 HR_3 HE_3 HL_3
  clear hb
  dsimp only
  try clear hS
  refine nx hK (⟨((hcell HK_4.out 14).trans (congrArg some HTR.out)),hcell HX_4.out 1⟩) fun hS=> ?_
  clear hK K
  (try simp only [acts])
  refine ro 12 fun K hK=> ?_
  obtain ⟨abO,hab,hab1O⟩:=nb0 HE_4
  have habKO:=nlt HK_4 hab
  have habPO:=nlt HP_4 hab
  have habXO:=nlt HX_4 hab
  have habRO:=nlt HR_4 hab
  go_simp
  obtain ⟨W5,hWn,hba,HO_5⟩:=nb1 (.cells #[.int .i64 (j:Int),.string so] 175) hab
  rw [hWn]
  clear hWn
  have HK_5:=nB hba HK_4
  have HP_5:=nB hba HP_4
  have HX_5:=nB hba HX_4
  have HR_5:=nB hba HR_4
  have HE_5:=nE hba HE_4
  have HL_5:=nL hba HL_4
  clear HK_4 HP_4 HX_4 HR_4 HE_4 HL_4
  clear hba
  try rw [hab]
  clear hab
  try clear hS
  refine nx hK (⟨((hcell HK_5.out 14).trans (congrArg some HTR.out)),hcell HX_5.out 1⟩) fun hS=> ?_
  clear hK K
  (try simp only [acts])
  rotate_left 1
  obtain ⟨abO,hab,hab1O⟩:=nb0 HE_3
  have habKO:=nlt HK_3 hab
  have habPO:=nlt HP_3 hab
  have habXO:=nlt HX_3 hab
  have habRO:=nlt HR_3 hab
  go_simp
  obtain ⟨W4,hWn,hba,HO_4⟩:=nb1 (.cells #[.int .i64 (j:Int),.string so] 175) hab
  rw [hWn]
  clear hWn
  have HK_4:=nB hba HK_3
  have HP_4:=nB hba HP_3
  have HX_4:=nB hba HX_3
  have HR_4:=nB hba HR_3
  have HE_4:=nE hba HE_3
  have HL_4:=nL hba HL_3
  clear HK_3 HP_3 HX_3 HR_3 HE_3 HL_3
  clear hba
  try rw [hab]
  clear hab
  try clear hS
  refine nx hK (⟨((hcell HK_4.out 14).trans (congrArg some HTR.out)),hcell HX_4.out 1⟩) fun hS=> ?_
  clear hK K
  (try simp only [acts])
  refine ro 6 fun K hK=> ?_
  refine want rfl ?_
  go_simp
  refine (clipOut _ _ _ _ htc).mono ?_
  rintro er W5 ⟨rfl,hb⟩
  have HK_5:=nB hb HK_4
  have HP_5:=nB hb HP_4
  have HX_5:=nB hb HX_4
  have HR_5:=nB hb HR_4
  have HO_5:=nB hb HO_4
  have HE_5:=nE hb HE_4
  have HL_5:=nL hb HL_4
  clear HK_4 HP_4 HX_4 HR_4 HO_4 HE_4 HL_4
  clear hb
  dsimp only
  try clear hS
  refine nx hK (⟨((hcell HK_5.out 14).trans (congrArg some HTR.out)),hcell HX_5.out 1⟩) fun hS=> ?_
  clear hK K
  (try simp only [acts])
  rotate_left 1
  all_goals
   obtain ⟨v9,W6,hrun,hown,hb⟩:=append_full (P:=Tryz.prog) (bytes:=24) (t:=54) (ty:=54) szOut (by decide) Tryz.underlying54 (by kernel_rfl) onesOut (w:=W5) (a:=ta) (n:=k.sent.length) (c:=1) (l:=k.sent) (by have h:=HL_5.out.se;rw [HTR.out] at h;exact Sl.clip h) (x:=⟨(j:Int),so⟩) (xb:=abO) HO_5.out (by unfold maxLen;omega) (by omega)
   have HRUN:=hU hrun
   refine ro 13 fun K hK=> ?_
   refine want rfl ?_
   refine wp_append_run _ _ _ _ rfl _ _ rfl rfl _ _ HRUN.out ?_
   have HK_6:=nB hb HK_5
   have HP_6:=nB hb HP_5
   have HX_6:=nB hb HX_5
   have HR_6:=nB hb HR_5
   have HO_6:=nB hb HO_5
   have HE_6:=nE hb HE_5
   have HL_6:=nL hb HL_5
   clear HK_5 HP_5 HX_5 HR_5 HO_5 HE_5 HL_5
   have ST_6:=hU (KR.Own.sl szOut hown)
   clear hb hown hrun HRUN
   try clear hS
   refine nx hK (⟨((hcell HK_6.out 14).trans (congrArg some HTR.out)),hcell HX_6.out 1⟩) fun hS=> ?_
   clear hK K
   (try simp only [acts])
   refine tp 14 ?_;try simp only [acts]
   refine tp 15 ?_;try simp only [acts]
   refine tp 16 ?_;try simp only [acts]
   refine ro 17 fun K hK=> ?_
   refine want rfl ?_
   refine wp_store1 (v:=v9) (off:=14) (new:=kcells {y with se:=v9} {k with sent:=k.sent ++ [⟨(j:Int),so⟩]}) rfl rfl rfl oneSOut HK_6.out ST_6.out.vcells ST_6.out.vone (show 14 + 1≤17 by decide) rfl ?_
   intro W7 hp
   have HL_7:Hid (LayAt W7 {y with se:=v9} bs {k with sent:=k.sent ++ [⟨(j:Int),so⟩]}):=hU ((HL_6.out.setSe ST_6.out).put HK_6.out noWork hp)
   have HE_7:=pK hp HE_6
   have HK_7:Hid (W7.heap[b]? =some (.cells (kcells {y with se:=v9} {k with sent:=k.sent ++ [⟨(j:Int),so⟩]}) 178 (0,0))):=pA hp
   have HP_7:=pT hp HK_6 HP_6
   have HX_7:=pT hp HK_6 HX_6
   have HR_7:=pT hp HK_6 HR_6
   have HO_7:=pT hp HK_6 HO_6
   have ST_7:=hU (ST_6.out.put HK_6.out hp (by decide))
   clear hp
   clear HK_6 HP_6 HX_6 HR_6 HO_6 HE_6 HL_6 ST_6
   refine nt hK ?_
   clear hK K
   try clear hS
   (try simp only [acts])
   refine doneL (by kernel_rfl) (NoPanic.normal ?_) _
   try clear hS
   repeat' (first|go_values|go_skip|go_guarded|(with_reducible refine wg ?_)|go_step|go_upon)
   go_ret2
   rw [HW2.out]
   exact ⟨rfl,⟨_,_,HK_7.out,HL_7.out⟩,HE_7.out⟩
end Kn
end Go.Proofs.YtkepkcjjenidgaaGreatDoor
