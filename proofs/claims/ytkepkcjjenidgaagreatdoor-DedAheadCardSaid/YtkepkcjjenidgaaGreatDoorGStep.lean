/- kern.Step: one cycle. Conditions: the rows are right, and small; the table of the instructions' parts lies there. -/
import Derived.Test.YtkepkcjjenidgaaGreatDoorKwGoes
import Derived.Test.YtkepkcjjenidgaaGreatDoorKwWakes
import Derived.Test.YtkepkcjjenidgaaGreatDoorGWork
import Derived.Test.YtkepkcjjenidgaaGreatDoorGGood
import Derived.Test.YtkepkcjjenidgaaGreatDoorGTop
set_option linter.unusedVariables false
set_option maxRecDepth 100000
set_option maxHeartbeats 8000000
set_option linter.unusedSimpArgs false
namespace Go.Proofs.YtkepkcjjenidgaaGreatDoor
open Go.RowKit KR RegT3
namespace Kn
theorem SStepa (v:Value) (k:Kern) (w:World) (hk:KernV w v k) (hr:Ready k) (hT:Tab w) (hg:k.gone=0):
 Calls Tryz.prog 59 #[v] w (GivesK (step k) w):=by
 obtain ⟨y0,bs,rfl,hl⟩:=hk
 obtain ⟨b,hb2⟩:∃ b,w.heap.size + 1 + 1=b:=⟨_,rfl⟩
 obtain ⟨W0,hW0,HK_0,HR_0,HE_0,HL_0,hz0,hzK,hzR,HR0⟩:=stS hl hb2
 have HTW:=hU (fun W (h:KR.Kept b w W)=> hT.below (Kept.low h (by omega)))
 clear hT
 have HRD:=hU hr
 clear hr
 go_enter Tryz.func59,Tryz.ntmps59
 have hgb:(k.gone==0)=true:=by simp [hg]
 have HGN:=hU hg
 clear hg
 repeat' (first
  |(rw [hW0,hb2];clear hW0)
  |(refine wpList_load (t:=56) (v:=.agg #[y0.p,y0.t,.int .i64 k.t.left,y0.s,y0.pi,.int .i64 k.hs,y0.h,.int .u64 k.now,y0.im,y0.ou,y0.ins_,y0.bx,.string k.cons,y0.tr,y0.se,.int .i64 k.want,.int .i64 k.gone]) rfl rfl rfl (run_load_whole aggKern HR0.out rfl) ?_)
  |(refine wpList_store1 (t:=54) (v:=.slice none 0 0) (off:=14) (new:=kcells {y0 with se:=.slice none 0 0} {k with sent:=[]}) rfl rfl rfl rfl oneSOut HK_0.out (Sl.nil:SlOut w _ []).vcells (Sl.nil:SlOut w _ []).vone (show 14 + 1≤17 by decide) rfl ?_;intro W1 hp
    have HL_1:Hid (LayAt W1 {y0 with se:=.slice none 0 0} bs {k with sent:=[]}):=hU ((HL_0.out.setSe (Sl.nil:SlOut _ _ [])).put HK_0.out noWork hp)
    have HE_1:=pK hp HE_0
    have HK_1:Hid (W1.heap[b]? =some (.cells (kcells {y0 with se:=.slice none 0 0} {k with sent:=[]}) 178 (0,0))):=pA hp
    have HR_1:=pT hp HK_0 HR_0
    clear hp
    clear HK_0 HR_0 HE_0 HL_0)
  |(refine wpList_store1 (t:=3) (v:=.int .i64 0) (off:=15) (new:=kcells {y0 with se:=.slice none 0 0} {k with sent:=[],want:=0}) rfl rfl rfl rfl oneInt HK_1.out rfl rfl (show 15 + 1≤17 by decide) rfl ?_;intro W2 hp
    have HL_2:Hid (LayAt W2 {y0 with se:=.slice none 0 0} bs {k with sent:=[],want:=0}):=hU ((HL_1.out.setWant 0).put HK_1.out noWork hp)
    have HE_2:=pK hp HE_1
    have HK_2:Hid (W2.heap[b]? =some (.cells (kcells {y0 with se:=.slice none 0 0} {k with sent:=[],want:=0}) 178 (0,0))):=pA hp
    have HR_2:=pT hp HK_1 HR_1
    clear hp
    clear HK_1 HR_1 HE_1 HL_1
    have kG:W2.cell? ⟨b,16,none⟩=some (.int .i64 k.gone):=hcell HK_2.out 16)
  |go_values|go_skip|go_guarded|(with_reducible refine wg ?_)|go_step|go_upon)
 clear kG HR0
 have hi1:Inv [] {k with sent:=[],want:=0}:=HRD.out.inv.same rfl rfl rfl rfl rfl rfl
 have hw1:=hi1.wakes
 have HW1:=hU hw1
 have HI1:=hU hi1
 clear hi1 hw1
 refine (WWakes b {k with sent:=[],want:=0} _ ⟨_,_,HK_2.out,HL_2.out⟩ HRD.out.bd.fresh HI1.out).mono ?_
 rintro er W3 ⟨hret,⟨y3,bs3,hkk,hll⟩,hke⟩
 have HR_3:=mB hke HR_2
 have HK_3:=hU hkk
 have HE_3:=mE hke HE_2
 have HL_3:=hU hll
 clear hkk hll hke
 clear HK_2 HR_2 HE_2 HL_2
 obtain ⟨er2,rfl⟩:=hret
 dsimp only
 repeat' (first
  |go_values|go_skip|go_guarded|(with_reducible refine wg ?_)|go_step|go_upon)
 refine (WGoes b (wakes {k with sent:=[],want:=0}) _ ⟨_,_,HK_3.out,HL_3.out⟩ (HTW.out _ HE_3.out) {k with sent:=[],want:=0} 12 HRD.out.bd.fresh HW1.out.inv HW1.out.told (by decide) (wakes_want _)).mono ?_
 rintro er W4 ⟨hret,⟨y4,bs4,hkk,hll⟩,hke⟩
 have HR_4:=mB hke HR_3
 have HK_4:=hU hkk
 have HE_4:=mE hke HE_3
 have HL_4:=hU hll
 clear hkk hll hke
 clear HK_3 HR_3 HE_3 HL_3
 obtain ⟨er3,rfl⟩:=hret
 dsimp only
 have hnow:(goes (wakes {k with sent:=[],want:=0})).now=k.now:=(HW1.out.told.trans (HW1.out.inv.goes (HW1.out.gone.trans HGN.out) (HW1.out.ne (by rcases HRD.out.life with g|g;exact g.2;exact absurd HGN.out g.1))).told).now
 have hst:step k={(goes (wakes {k with sent:=[],want:=0})) with now:=til k.now 1}:=by
  have:step k={(goes (wakes {k with sent:=[],want:=0})) with now:=til (goes (wakes {k with sent:=[],want:=0})).now 1}:=by rw [step];dsimp only;rw [if_pos HGN.out]
  rw [this,hnow]
 have HST:=hU hst
 clear hst
 have kN:W4.cell? ⟨b,7,none⟩=some (.int .u64 k.now):=(hcell HK_4.out 7).trans (congrArg (fun z=> some (Value.int .u64 z)) hnow)
 repeat' (first
  |go_values|go_skip|go_guarded|(with_reducible refine wg ?_)|go_step|go_upon)
 refine (Until k.now 1 _ HRD.out.bd.now0 HRD.out.bd.now1 (by decide) (by decide)).mono ?_
 rintro er W5 ⟨rfl,hb⟩
 have HK_5:=nB hb HK_4
 have HR_5:=nB hb HR_4
 have HE_5:=nE hb HE_4
 have HL_5:=nL hb HL_4
 clear HK_4 HR_4 HE_4 HL_4
 clear hb kN
 dsimp only
 repeat' (first
  |(refine wpList_store1 (t:=32) (v:=.int .u64 (til k.now 1)) (off:=7) (new:=kcells y4 {(goes (wakes {k with sent:=[],want:=0})) with now:=til k.now 1}) rfl rfl rfl rfl oneU64 HK_5.out rfl rfl (show 7 + 1≤17 by decide) rfl ?_;intro W6 hp
    have HL_6:Hid (LayAt W6 y4 bs4 {(goes (wakes {k with sent:=[],want:=0})) with now:=til k.now 1}):=hU ((HL_5.out.setNow (til k.now 1)).put HK_5.out noWork hp)
    have HE_6:=pK hp HE_5
    have HK_6:Hid (W6.heap[b]? =some (.cells (kcells y4 {(goes (wakes {k with sent:=[],want:=0})) with now:=til k.now 1}) 178 (0,0))):=pA hp
    have HR_6:=pT hp HK_5 HR_5
    clear hp
    clear HK_5 HR_5 HE_5 HL_5)
  |(refine wpList_load (t:=56) (v:=.agg (kcells y4 {(goes (wakes {k with sent:=[],want:=0})) with now:=til k.now 1})) rfl rfl rfl (run_load_whole aggKern HK_6.out rfl) ?_)
  |(refine wpList_store (t:=56) (v:=.agg (kcells y4 {(goes (wakes {k with sent:=[],want:=0})) with now:=til k.now 1})) (off:=0) (new:=(kcells y4 {(goes (wakes {k with sent:=[],want:=0})) with now:=til k.now 1})) rfl rfl rfl rfl aggKern.size HR_6.out rfl (show 0 + 17≤17 by decide) (onesK HL_6.out) rfl ?_;intro W7 hp
    have HE_7:=pE hp HE_6
    have HL_7:=pL hp HR_6 HL_6
    have HR_7:=pA hp
    have HK_7:=pT hp HR_6 HK_6
    clear hp
    clear HK_6 HR_6 HE_6 HL_6)
  |go_values|go_skip|go_guarded|(with_reducible refine wg ?_)|go_step|go_upon)
 (try simp only [Exit.inBlock,Exit.then]);refine bodyPost_ret (res_cell Tryz.results59 aggKern rfl HR_7.out rfl) rfl ?_
 rw [HST.out]
 exact ⟨_,rfl,⟨_,_,rfl,HL_7.out⟩,Kept.low HE_7.out (by omega)⟩
theorem SStepb (v:Value) (k:Kern) (w:World) (hk:KernV w v k) (hr:Ready k) (hT:Tab w) (hg:k.gone ≠ 0):
 Calls Tryz.prog 59 #[v] w (GivesK (step k) w):=by
 obtain ⟨y0,bs,rfl,hl⟩:=hk
 obtain ⟨b,hb2⟩:∃ b,w.heap.size + 1 + 1=b:=⟨_,rfl⟩
 obtain ⟨W0,hW0,HK_0,HR_0,HE_0,HL_0,hz0,hzK,hzR,HR0⟩:=stS hl hb2
 have HTW:=hU (fun W (h:KR.Kept b w W)=> hT.below (Kept.low h (by omega)))
 clear hT
 have HRD:=hU hr
 clear hr
 go_enter Tryz.func59,Tryz.ntmps59
 have hgb:(k.gone==0)=false:=by simp [hg]
 have HGN:=hU hg
 clear hg
 repeat' (first
  |(rw [hW0,hb2];clear hW0)
  |(refine wpList_load (t:=56) (v:=.agg #[y0.p,y0.t,.int .i64 k.t.left,y0.s,y0.pi,.int .i64 k.hs,y0.h,.int .u64 k.now,y0.im,y0.ou,y0.ins_,y0.bx,.string k.cons,y0.tr,y0.se,.int .i64 k.want,.int .i64 k.gone]) rfl rfl rfl (run_load_whole aggKern HR0.out rfl) ?_)
  |(refine wpList_store1 (t:=54) (v:=.slice none 0 0) (off:=14) (new:=kcells {y0 with se:=.slice none 0 0} {k with sent:=[]}) rfl rfl rfl rfl oneSOut HK_0.out (Sl.nil:SlOut w _ []).vcells (Sl.nil:SlOut w _ []).vone (show 14 + 1≤17 by decide) rfl ?_;intro W1 hp
    have HL_1:Hid (LayAt W1 {y0 with se:=.slice none 0 0} bs {k with sent:=[]}):=hU ((HL_0.out.setSe (Sl.nil:SlOut _ _ [])).put HK_0.out noWork hp)
    have HE_1:=pK hp HE_0
    have HK_1:Hid (W1.heap[b]? =some (.cells (kcells {y0 with se:=.slice none 0 0} {k with sent:=[]}) 178 (0,0))):=pA hp
    have HR_1:=pT hp HK_0 HR_0
    clear hp
    clear HK_0 HR_0 HE_0 HL_0)
  |(refine wpList_store1 (t:=3) (v:=.int .i64 0) (off:=15) (new:=kcells {y0 with se:=.slice none 0 0} {k with sent:=[],want:=0}) rfl rfl rfl rfl oneInt HK_1.out rfl rfl (show 15 + 1≤17 by decide) rfl ?_;intro W2 hp
    have HL_2:Hid (LayAt W2 {y0 with se:=.slice none 0 0} bs {k with sent:=[],want:=0}):=hU ((HL_1.out.setWant 0).put HK_1.out noWork hp)
    have HE_2:=pK hp HE_1
    have HK_2:Hid (W2.heap[b]? =some (.cells (kcells {y0 with se:=.slice none 0 0} {k with sent:=[],want:=0}) 178 (0,0))):=pA hp
    have HR_2:=pT hp HK_1 HR_1
    clear hp
    clear HK_1 HR_1 HE_1 HL_1
    have kG:W2.cell? ⟨b,16,none⟩=some (.int .i64 k.gone):=hcell HK_2.out 16
    have kN:W2.cell? ⟨b,7,none⟩=some (.int .u64 k.now):=hcell HK_2.out 7)
  |go_values|go_skip|go_guarded|(with_reducible refine wg ?_)|go_step|go_upon)
 clear kG HR0
 have hnow:k.now=k.now:=rfl
 have hst:step k={{k with sent:=[],want:=0} with now:=til k.now 1}:=by rw [step];dsimp only;rw [if_neg HGN.out]
 have HST:=hU hst
 clear hst
 refine (Until k.now 1 _ HRD.out.bd.now0 HRD.out.bd.now1 (by decide) (by decide)).mono ?_
 rintro er W3 ⟨rfl,hb⟩
 have HK_3:=nB hb HK_2
 have HR_3:=nB hb HR_2
 have HE_3:=nE hb HE_2
 have HL_3:=nL hb HL_2
 clear HK_2 HR_2 HE_2 HL_2
 clear hb kN
 dsimp only
 repeat' (first
  |(refine wpList_store1 (t:=32) (v:=.int .u64 (til k.now 1)) (off:=7) (new:=kcells {y0 with se:=.slice none 0 0} {{k with sent:=[],want:=0} with now:=til k.now 1}) rfl rfl rfl rfl oneU64 HK_3.out rfl rfl (show 7 + 1≤17 by decide) rfl ?_;intro W4 hp
    have HL_4:Hid (LayAt W4 {y0 with se:=.slice none 0 0} bs {{k with sent:=[],want:=0} with now:=til k.now 1}):=hU ((HL_3.out.setNow (til k.now 1)).put HK_3.out noWork hp)
    have HE_4:=pK hp HE_3
    have HK_4:Hid (W4.heap[b]? =some (.cells (kcells {y0 with se:=.slice none 0 0} {{k with sent:=[],want:=0} with now:=til k.now 1}) 178 (0,0))):=pA hp
    have HR_4:=pT hp HK_3 HR_3
    clear hp
    clear HK_3 HR_3 HE_3 HL_3)
  |(refine wpList_load (t:=56) (v:=.agg (kcells {y0 with se:=.slice none 0 0} {{k with sent:=[],want:=0} with now:=til k.now 1})) rfl rfl rfl (run_load_whole aggKern HK_4.out rfl) ?_)
  |(refine wpList_store (t:=56) (v:=.agg (kcells {y0 with se:=.slice none 0 0} {{k with sent:=[],want:=0} with now:=til k.now 1})) (off:=0) (new:=(kcells {y0 with se:=.slice none 0 0} {{k with sent:=[],want:=0} with now:=til k.now 1})) rfl rfl rfl rfl aggKern.size HR_4.out rfl (show 0 + 17≤17 by decide) (onesK HL_4.out) rfl ?_;intro W5 hp
    have HE_5:=pE hp HE_4
    have HL_5:=pL hp HR_4 HL_4
    have HR_5:=pA hp
    have HK_5:=pT hp HR_4 HK_4
    clear hp
    clear HK_4 HR_4 HE_4 HL_4)
  |go_values|go_skip|go_guarded|(with_reducible refine wg ?_)|go_step|go_upon)
 (try simp only [Exit.inBlock,Exit.then]);refine bodyPost_ret (res_cell Tryz.results59 aggKern rfl HR_5.out rfl) rfl ?_
 rw [HST.out]
 exact ⟨_,rfl,⟨_,_,rfl,HL_5.out⟩,Kept.low HE_5.out (by omega)⟩
theorem SStep (v:Value) (k:Kern) (w:World) (hk:KernV w v k) (hr:Ready k) (hT:Tab w):Calls Tryz.prog 59 #[v] w (GivesK (step k) w):=by
 by_cases hg:k.gone=0
 · exact SStepa v k w hk hr hT hg
 · exact SStepb v k w hk hr hT hg
end Kn
end Go.Proofs.YtkepkcjjenidgaaGreatDoor
