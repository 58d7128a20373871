/- The document's examples of layer 14. Condition: the table of the instructions' parts lies there. The laws' scripts of seats: plays. Conditions: few rows; strings that there can be; the table of the instructions' parts lies there. What the laws of layer 14 carry. No condition. -/
import Derived.Test.YtkepkcjjenidgaaGreatDoorGSe0
import Derived.Test.YtkepkcjjenidgaaGreatDoorGSe1
import Derived.Test.YtkepkcjjenidgaaGreatDoorGTop
set_option linter.unusedVariables false
set_option maxRecDepth 100000
set_option maxHeartbeats 8000000
set_option linter.unusedSimpArgs false
namespace Go.Proofs.YtkepkcjjenidgaaGreatDoor
open Go.RowKit KR RegT3
namespace Kn
def exH:Part:=⟨64,2,2,2⟩
def exR:Part:=⟨64,3,3,3⟩
theorem exH_st:(scycle exH (sbegin exH [⟨#[]⟩] [] [])).st=3∧(scycle exH (sbegin exH [⟨#[]⟩] [] [])).boots=1:=by constructor <;> kernel_rfl
theorem exR_st:(scycle exR (sbegin exR [⟨#[]⟩] [] [])).st=1∧(scycle exR (sbegin exR [⟨#[]⟩] [] [])).boots=2:=by constructor <;> kernel_rfl
theorem one_str {W:World} {n:Nat} {s:ByteArray} (h:W.heap[n]? =some (.cells #[.string s] 9 (0,0))):Rd 1 strCells W (.slice (some ⟨n,0,none⟩) 1 1) [s]:=
 ⟨_,1,rfl,Nat.le_refl _,(show 1≤9223372036854775807 by decide),.inr ⟨n,0,rfl,hlt h,fun i x hx j u hj=> by
   match i,hx with
   |0,hx=>
    obtain rfl:=Option.some.inj hx
    exact (hcell h _).trans (by simpa [strCells] using hj)⟩⟩
theorem LShownS (w:World) (hT:Tab w):Calls Tryz.prog 21 #[] w (Gives (.bool true) w):=by
 have HT:=hU (fun W (h:Below w.heap.size w W)=> hT.below h)
 clear hT
 obtain ⟨Wb,hWb,hbb,hp0⟩:=nb1 (W:=w) (.cells #[.int .i64 64,.int .i64 2,.int .i64 2,.int .i64 2] 64) rfl
 have hzb:Wb.heap.size=w.heap.size + 1:=by rw [← hWb,World.size_alloc]
 obtain ⟨Wn,hWn,hbn,hq0⟩:=nb1 (W:=Wb) (.cells #[.int .i64 64,.int .i64 3,.int .i64 3,.int .i64 3] 64) hzb
 have HP:Hid (Wn.heap[w.heap.size]? =some (.cells exH.cells 64 (0,0))):=nB hbn hp0
 have HQ:Hid (Wn.heap[w.heap.size + 1]? =some (.cells exR.cells 64 (0,0))):=hq0
 have HB:Hid (Below w.heap.size w Wn):=hU (hbb.trans (hbn.mono hbb.size))
 clear hp0 hq0 hbb hbn
 go_enter Tryz.func21,Tryz.ntmps21
 repeat' (first|(rw [hWb];clear hWb)|(rw [hWn,hzb];clear hWn hzb)|go_values|go_skip|go_guarded|(with_reducible refine wg ?_)|go_step|go_upon)
 apply Kn.join5 (F:=fun (ab rb:Nat) (v1:Value) (y2:Lay) (Wz:World)=> Hid (Wz.heap[ab]? =some (.cells (scells y2 (scycle exH (sbegin exH [⟨#[]⟩] [] []))) 58 (0,0)))∧Hid (Wz.heap[w.heap.size + 1]? =some (.cells exR.cells 64 (0,0)))∧Hid (Below w.heap.size w Wz))
 case h2=>
  intro hj
  refine wp_region_noPanic ?_
  refine go0 (S:=fun W=> W.heap[w.heap.size]? =some (.cells exH.cells 64 (0,0))) [] HP.out fun hS=> ?_
  obtain ⟨Wm,hWd⟩:=exW Wn.drew
  replace HP:=dB hWd HP
  replace HQ:=dB hWd HQ
  replace HB:Hid (Below w.heap.size w Wm):=hU (by rw [← hWd];exact HB.out.drew)
  rw [hWd] at hS ⊢
  clear hWd
  obtain ⟨Wn,rfl⟩:∃ Wn,Wn=Wm:=⟨_,rfl⟩
  refine tv 0 (.agg exH.cells) (fun W hSW=> run_val_load rfl rfl (run_load_whole aggPart hSW rfl)) ?_
  (try simp only [acts])
  refine tv 1 (.agg exH.cells) (fun W hSW=> run_val_load rfl rfl (run_load_whole aggPart hSW rfl)) ?_
  (try simp only [acts])
  refine twoL (i:=2) (j:=5) (by kernel_rfl) rfl rfl (fun K hK=> ?_) (fun K hK=> ?_)
  rotate_left 1
  go_simp
  obtain ⟨ab,hab,hab1⟩:=nbz HB
  obtain ⟨Wn,hWn,hba,HV0⟩:=nb1 (W:=Wn) (.cells #[.slice none 0 0,.slice none 0 0,.int .i64 0,.slice none 0 0,.slice none 0 0,.int .i64 0,.slice none 0 0,.int .u64 0,.slice none 0 0,.slice none 0 0,.slice none 0 0,.slice none 0 0,.string ⟨#[]⟩,.slice none 0 0,.slice none 0 0,.int .i64 0,.int .i64 0,.int .i64 0,.int .i64 0] 58) hab
  rw [hWn]
  clear hWn
  replace HP:=nB hba HP
  replace HQ:=nB hba HQ
  replace HB:=hU (HB.out.trans (hba.mono HB.out.size))
  clear hba
  rw [hab]
  clear hab
  try clear hS
  refine nx hK HP.out fun hS=> ?_
  clear hK K
  (try simp only [acts])
  refine ro 2 fun K hK=> ?_
  all_goals
   go_simp
   obtain ⟨rb,hrb⟩:∃ rb,Wn.heap.size=rb:=⟨_,rfl⟩
   obtain ⟨Wn,hWn,hba,HS⟩:=nb1 (W:=Wn) (.cells #[.string ⟨#[]⟩] 9) hrb
   rw [hWn,hrb]
   clear hWn hrb
   replace HP:=nB hba HP
   replace HQ:=nB hba HQ
   replace HB:=hU (HB.out.trans (hba.mono HB.out.size))
   (try replace HV0:=nB hba HV0)
   have HSL:=hU (one_str HS.out)
   clear hba HS
   try clear hS
   refine nx hK HP.out fun hS=> ?_
   clear hK K
   (try simp only [acts])
  rotate_left 1
  refine twoL (i:=3) (j:=5) (by kernel_rfl) rfl rfl (fun K hK=> ?_) (fun K hK=> ?_)
  rotate_left 1
  go_simp
  obtain ⟨ab,hab,hab1⟩:=nbz HB
  obtain ⟨Wn,hWn,hba,HV0⟩:=nb1 (W:=Wn) (.cells #[.slice none 0 0,.slice none 0 0,.int .i64 0,.slice none 0 0,.slice none 0 0,.int .i64 0,.slice none 0 0,.int .u64 0,.slice none 0 0,.slice none 0 0,.slice none 0 0,.slice none 0 0,.string ⟨#[]⟩,.slice none 0 0,.slice none 0 0,.int .i64 0,.int .i64 0,.int .i64 0,.int .i64 0] 58) hab
  rw [hWn]
  clear hWn
  replace HP:=nB hba HP
  replace HQ:=nB hba HQ
  replace HB:=hU (HB.out.trans (hba.mono HB.out.size))
  replace HSL:=hU (HSL.out.below hba)
  clear hba
  rw [hab]
  clear hab
  try clear hS
  refine nx hK HP.out fun hS=> ?_
  clear hK K
  (try simp only [acts])
  refine ro 3 fun K hK=> ?_
  rotate_left 1
  refine ro 3 fun K hK=> ?_
  all_goals
   refine want rfl ?_
   go_simp
   refine (SBegin exH _ _ _ [⟨#[]⟩] [] [] Wn HSL.out Rd.nil Rd.nil (by decide) (by decide) (by decide) (by decide) (by decide)).mono ?_
   rintro er Wn ⟨v1,rfl,hv1,hb⟩
   replace HP:=nB hb HP
   replace HQ:=nB hb HQ
   replace HB:=hU (HB.out.trans (hb.mono HB.out.size))
   (try replace HV0:=nB hb HV0)
   clear hb HSL
   have HL:=hU hv1
   clear hv1
   dsimp only
   try clear hS
   refine nx hK HP.out fun hS=> ?_
   clear hK K
   (try simp only [acts])
  rotate_left 1
  refine twoL (i:=4) (j:=5) (by kernel_rfl) rfl rfl (fun K hK=> ?_) (fun K hK=> ?_)
  rotate_left 1
  go_simp
  obtain ⟨ab,hab,hab1⟩:=nbz HB
  obtain ⟨Wn,hWn,hba,HV0⟩:=nb1 (W:=Wn) (.cells #[.slice none 0 0,.slice none 0 0,.int .i64 0,.slice none 0 0,.slice none 0 0,.int .i64 0,.slice none 0 0,.int .u64 0,.slice none 0 0,.slice none 0 0,.slice none 0 0,.slice none 0 0,.string ⟨#[]⟩,.slice none 0 0,.slice none 0 0,.int .i64 0,.int .i64 0,.int .i64 0,.int .i64 0] 58) hab
  rw [hWn]
  clear hWn
  replace HP:=nB hba HP
  replace HQ:=nB hba HQ
  replace HB:=hU (HB.out.trans (hba.mono HB.out.size))
  replace HL:=hU (SeatV.below HL.out hba)
  clear hba
  rw [hab]
  clear hab
  try clear hS
  refine nx hK HP.out fun hS=> ?_
  clear hK K
  (try simp only [acts])
  refine ro 4 fun K hK=> ?_
  rotate_left 1
  refine ro 4 fun K hK=> ?_
  rotate_left 1
  refine ro 4 fun K hK=> ?_
  all_goals
   refine want rfl ?_
   go_simp
   refine (SCycle exH v1 (sbegin exH [⟨#[]⟩] [] []) 0 Wn HL.out (sbegin_good (g:=⟨exH,[⟨#[]⟩],[],[]⟩) ⟨by decide,by decide,by decide,⟨by decide,by decide⟩⟩) (by decide) ⟨by decide,by decide⟩ (HT.out _ HB.out)).mono ?_
   rintro er Wn ⟨v2,rfl,⟨y2,bs2,rfl,hl2⟩,hb⟩
   replace HP:=nB hb HP
   replace HQ:=nB hb HQ
   replace HB:=hU (HB.out.trans (hb.mono HB.out.size))
   (try replace HV0:=nB hb HV0)
   clear hb HL
   have HO:=hU (onesS hl2)
   clear hl2
   dsimp only
   try clear hS
   refine nx hK HP.out fun hS=> ?_
   clear hK K
   (try simp only [acts])
  rotate_left 1
  refine ro 5 fun K hK=> ?_
  go_simp
  obtain ⟨ab,hab,hab1⟩:=nbz HB
  obtain ⟨Wn,hWn,hba,HV0⟩:=nb1 (W:=Wn) (.cells #[.slice none 0 0,.slice none 0 0,.int .i64 0,.slice none 0 0,.slice none 0 0,.int .i64 0,.slice none 0 0,.int .u64 0,.slice none 0 0,.slice none 0 0,.slice none 0 0,.slice none 0 0,.string ⟨#[]⟩,.slice none 0 0,.slice none 0 0,.int .i64 0,.int .i64 0,.int .i64 0,.int .i64 0] 58) hab
  rw [hWn]
  clear hWn
  replace HP:=nB hba HP
  replace HQ:=nB hba HQ
  replace HB:=hU (HB.out.trans (hba.mono HB.out.size))
  clear hba
  rw [hab]
  clear hab
  try clear hS
  refine nx hK HP.out fun hS=> ?_
  clear hK K
  (try simp only [acts])
  all_goals
   refine ro 6 fun K hK=> ?_
   refine want rfl ?_
   refine wp_store (v:=.agg (scells y2 (scycle exH (sbegin exH [⟨#[]⟩] [] [])))) (off:=0) (new:=scells y2 (scycle exH (sbegin exH [⟨#[]⟩] [] []))) rfl rfl rfl aggSeat.size HV0.out rfl (show 0 + 19≤19 by decide) HO.out rfl ?_
   intro Wn hp
   replace HB:=hU (Below.put HB.out hp hab1)
   replace HP:=pT hp HV0 HP
   replace HQ:=pT hp HV0 HQ
   replace HV0:=pA hp
   clear hp
   try clear hS
   refine nx hK HP.out fun hS=> ?_
   clear hK K
   (try simp only [acts])
   refine doneL (by kernel_rfl) (NoPanic.normal ?_) _
   try clear hS
  all_goals exact hj ab rb v1 y2 Wn ⟨HV0,HQ,HB⟩
 rintro ab0 rb v1 y0 Wn ⟨HV0,HQ,HB⟩
 repeat' (first|go_values|go_skip|go_guarded|(with_reducible refine wg ?_)|go_step|go_upon)
 apply Kn.join5 (F:=fun (ab rb:Nat) (v1:Value) (y2:Lay) (Wz:World)=> Hid (Wz.heap[ab]? =some (.cells (scells y2 (scycle exR (sbegin exR [⟨#[]⟩] [] []))) 58 (0,0)))∧Hid (Wz.heap[ab0]? =some (.cells (scells y0 (scycle exH (sbegin exH [⟨#[]⟩] [] []))) 58 (0,0)))∧Hid (Below w.heap.size w Wz))
 case h2=>
  intro hj
  refine wp_region_noPanic ?_
  refine go0 (S:=fun W=> W.heap[w.heap.size + 1]? =some (.cells exR.cells 64 (0,0))) [] HQ.out fun hS=> ?_
  obtain ⟨Wm,hWd⟩:=exW Wn.drew
  replace HQ:=dB hWd HQ
  replace HV0:=dB hWd HV0
  replace HB:Hid (Below w.heap.size w Wm):=hU (by rw [← hWd];exact HB.out.drew)
  rw [hWd] at hS ⊢
  clear hWd
  obtain ⟨Wn,rfl⟩:∃ Wn,Wn=Wm:=⟨_,rfl⟩
  refine tv 0 (.agg exR.cells) (fun W hSW=> run_val_load rfl rfl (run_load_whole aggPart hSW rfl)) ?_
  (try simp only [acts])
  refine tv 1 (.agg exR.cells) (fun W hSW=> run_val_load rfl rfl (run_load_whole aggPart hSW rfl)) ?_
  (try simp only [acts])
  refine twoL (i:=2) (j:=5) (by kernel_rfl) rfl rfl (fun K hK=> ?_) (fun K hK=> ?_)
  rotate_left 1
  go_simp
  obtain ⟨ab,hab,hab1⟩:=nbz HB
  have hxHV0:=nlt HV0 hab
  obtain ⟨Wn,hWn,hba,HV1⟩:=nb1 (W:=Wn) (.cells #[.slice none 0 0,.slice none 0 0,.int .i64 0,.slice none 0 0,.slice none 0 0,.int .i64 0,.slice none 0 0,.int .u64 0,.slice none 0 0,.slice none 0 0,.slice none 0 0,.slice none 0 0,.string ⟨#[]⟩,.slice none 0 0,.slice none 0 0,.int .i64 0,.int .i64 0,.int .i64 0,.int .i64 0] 58) hab
  rw [hWn]
  clear hWn
  replace HQ:=nB hba HQ
  replace HV0:=nB hba HV0
  replace HB:=hU (HB.out.trans (hba.mono HB.out.size))
  clear hba
  rw [hab]
  clear hab
  try clear hS
  refine nx hK HQ.out fun hS=> ?_
  clear hK K
  (try simp only [acts])
  refine ro 2 fun K hK=> ?_
  all_goals
   go_simp
   obtain ⟨rb,hrb⟩:∃ rb,Wn.heap.size=rb:=⟨_,rfl⟩
   obtain ⟨Wn,hWn,hba,HS⟩:=nb1 (W:=Wn) (.cells #[.string ⟨#[]⟩] 9) hrb
   rw [hWn,hrb]
   clear hWn hrb
   replace HQ:=nB hba HQ
   replace HV0:=nB hba HV0
   replace HB:=hU (HB.out.trans (hba.mono HB.out.size))
   (try replace HV1:=nB hba HV1)
   have HSL:=hU (one_str HS.out)
   clear hba HS
   try clear hS
   refine nx hK HQ.out fun hS=> ?_
   clear hK K
   (try simp only [acts])
  rotate_left 1
  refine twoL (i:=3) (j:=5) (by kernel_rfl) rfl rfl (fun K hK=> ?_) (fun K hK=> ?_)
  rotate_left 1
  go_simp
  obtain ⟨ab,hab,hab1⟩:=nbz HB
  have hxHV0:=nlt HV0 hab
  obtain ⟨Wn,hWn,hba,HV1⟩:=nb1 (W:=Wn) (.cells #[.slice none 0 0,.slice none 0 0,.int .i64 0,.slice none 0 0,.slice none 0 0,.int .i64 0,.slice none 0 0,.int .u64 0,.slice none 0 0,.slice none 0 0,.slice none 0 0,.slice none 0 0,.string ⟨#[]⟩,.slice none 0 0,.slice none 0 0,.int .i64 0,.int .i64 0,.int .i64 0,.int .i64 0] 58) hab
  rw [hWn]
  clear hWn
  replace HQ:=nB hba HQ
  replace HV0:=nB hba HV0
  replace HB:=hU (HB.out.trans (hba.mono HB.out.size))
  replace HSL:=hU (HSL.out.below hba)
  clear hba
  rw [hab]
  clear hab
  try clear hS
  refine nx hK HQ.out fun hS=> ?_
  clear hK K
  (try simp only [acts])
  refine ro 3 fun K hK=> ?_
  rotate_left 1
  refine ro 3 fun K hK=> ?_
  all_goals
   refine want rfl ?_
   go_simp
   refine (SBegin exR _ _ _ [⟨#[]⟩] [] [] Wn HSL.out Rd.nil Rd.nil (by decide) (by decide) (by decide) (by decide) (by decide)).mono ?_
   rintro er Wn ⟨v1,rfl,hv1,hb⟩
   replace HQ:=nB hb HQ
   replace HV0:=nB hb HV0
   replace HB:=hU (HB.out.trans (hb.mono HB.out.size))
   (try replace HV1:=nB hb HV1)
   clear hb HSL
   have HL:=hU hv1
   clear hv1
   dsimp only
   try clear hS
   refine nx hK HQ.out fun hS=> ?_
   clear hK K
   (try simp only [acts])
  rotate_left 1
  refine twoL (i:=4) (j:=5) (by kernel_rfl) rfl rfl (fun K hK=> ?_) (fun K hK=> ?_)
  rotate_left 1
  go_simp
  obtain ⟨ab,hab,hab1⟩:=nbz HB
  have hxHV0:=nlt HV0 hab
  obtain ⟨Wn,hWn,hba,HV1⟩:=nb1 (W:=Wn) (.cells #[.slice none 0 0,.slice none 0 0,.int .i64 0,.slice none 0 0,.slice none 0 0,.int .i64 0,.slice none 0 0,.int .u64 0,.slice none 0 0,.slice none 0 0,.slice none 0 0,.slice none 0 0,.string ⟨#[]⟩,.slice none 0 0,.slice none 0 0,.int .i64 0,.int .i64 0,.int .i64 0,.int .i64 0] 58) hab
  rw [hWn]
  clear hWn
  replace HQ:=nB hba HQ
  replace HV0:=nB hba HV0
  replace HB:=hU (HB.out.trans (hba.mono HB.out.size))
  replace HL:=hU (SeatV.below HL.out hba)
  clear hba
  rw [hab]
  clear hab
  try clear hS
  refine nx hK HQ.out fun hS=> ?_
  clear hK K
  (try simp only [acts])
  refine ro 4 fun K hK=> ?_
  rotate_left 1
  refine ro 4 fun K hK=> ?_
  rotate_left 1
  refine ro 4 fun K hK=> ?_
  all_goals
   refine want rfl ?_
   go_simp
   refine (SCycle exR v1 (sbegin exR [⟨#[]⟩] [] []) 0 Wn HL.out (sbegin_good (g:=⟨exR,[⟨#[]⟩],[],[]⟩) ⟨by decide,by decide,by decide,⟨by decide,by decide⟩⟩) (by decide) ⟨by decide,by decide⟩ (HT.out _ HB.out)).mono ?_
   rintro er Wn ⟨v2,rfl,⟨y2,bs2,rfl,hl2⟩,hb⟩
   replace HQ:=nB hb HQ
   replace HV0:=nB hb HV0
   replace HB:=hU (HB.out.trans (hb.mono HB.out.size))
   (try replace HV1:=nB hb HV1)
   clear hb HL
   have HO:=hU (onesS hl2)
   clear hl2
   dsimp only
   try clear hS
   refine nx hK HQ.out fun hS=> ?_
   clear hK K
   (try simp only [acts])
  rotate_left 1
  refine ro 5 fun K hK=> ?_
  go_simp
  obtain ⟨ab,hab,hab1⟩:=nbz HB
  have hxHV0:=nlt HV0 hab
  obtain ⟨Wn,hWn,hba,HV1⟩:=nb1 (W:=Wn) (.cells #[.slice none 0 0,.slice none 0 0,.int .i64 0,.slice none 0 0,.slice none 0 0,.int .i64 0,.slice none 0 0,.int .u64 0,.slice none 0 0,.slice none 0 0,.slice none 0 0,.slice none 0 0,.string ⟨#[]⟩,.slice none 0 0,.slice none 0 0,.int .i64 0,.int .i64 0,.int .i64 0,.int .i64 0] 58) hab
  rw [hWn]
  clear hWn
  replace HQ:=nB hba HQ
  replace HV0:=nB hba HV0
  replace HB:=hU (HB.out.trans (hba.mono HB.out.size))
  clear hba
  rw [hab]
  clear hab
  try clear hS
  refine nx hK HQ.out fun hS=> ?_
  clear hK K
  (try simp only [acts])
  all_goals
   refine ro 6 fun K hK=> ?_
   refine want rfl ?_
   refine wp_store (v:=.agg (scells y2 (scycle exR (sbegin exR [⟨#[]⟩] [] [])))) (off:=0) (new:=scells y2 (scycle exR (sbegin exR [⟨#[]⟩] [] []))) rfl rfl rfl aggSeat.size HV1.out rfl (show 0 + 19≤19 by decide) HO.out rfl ?_
   intro Wn hp
   replace HB:=hU (Below.put HB.out hp hab1)
   replace HQ:=pT hp HV1 HQ
   replace HV0:=pO hp HV0
   replace HV1:=pA hp
   clear hp
   try clear hS
   refine nx hK HQ.out fun hS=> ?_
   clear hK K
   (try simp only [acts])
   refine doneL (by kernel_rfl) (NoPanic.normal ?_) _
   try clear hS
  all_goals exact hj ab rb v1 y2 Wn ⟨HV1,HV0,HB⟩
 rintro ab1 rb1 v2 y1 Wn ⟨HV1,HV0,HB⟩
 obtain ⟨e1,e2⟩:=exH_st
 obtain ⟨e3,e4⟩:=exR_st
 have f1:Wn.cell? ⟨ab0,17,none⟩=some (.int .i64 3):=by rw [← e1];exact hcell HV0.out 17
 have f2:Wn.cell? ⟨ab0,18,none⟩=some (.int .i64 1):=by rw [← e2];exact hcell HV0.out 18
 have f3:Wn.cell? ⟨ab1,17,none⟩=some (.int .i64 1):=by rw [← e3];exact hcell HV1.out 17
 have f4:Wn.cell? ⟨ab1,18,none⟩=some (.int .i64 2):=by rw [← e4];exact hcell HV1.out 18
 clear e1 e2 e3 e4
 repeat' (first|go_values|go_skip|go_guarded|(with_reducible refine wg ?_)|go_step|go_upon)
 go_ret
 exact gives_of rfl HB.out
def sat (g:SGuest) (l:List SDeed) (i:Nat):Seat:=(l.take i).foldl (sdeed g.x) (sbegin g.x g.images g.outs g.ins_)
def SPlaysR (w:World) (b:Nat) (g:SGuest) (l:List SDeed) (qc:Array Value) (iv:Value) (W:World):Prop:=∃ (i:Nat) (y:Lay) (bs:List BoxV),i≤l.length∧i≤30∧iv=.int .i64 i∧W.heap[b]? =some (.cells (scells y (sat g l i)) 58 (0,0))∧LayAt W y bs (sat g l i).k∧
 W.heap[w.heap.size + 1]? =some (.cells #[.slice none 0 0,.slice none 0 0,.int .i64 0,.slice none 0 0,.slice none 0 0,.int .i64 0,.slice none 0 0,.int .u64 0,.slice none 0 0,.slice none 0 0,.slice none 0 0,.slice none 0 0,.string ⟨#[]⟩,.slice none 0 0,.slice none 0 0,.int .i64 0,.int .i64 0,.int .i64 0,.int .i64 0] 58 (0,0))∧W.heap[w.heap.size]? =some (.cells qc 66 (0,0))∧KR.Kept b w W
def SCycR (w:World) (b:Nat) (x:Part) (s:Seat) (kind m:Int) (qc:Array Value) (jv:Value) (W:World):Prop:=∃ (j:Nat) (y:Lay) (bs:List BoxV),j≤m.toNat∧(kind ≠ 1→j=0)∧jv=.int .i64 j∧W.heap[b]? =some (.cells (scells y (scycles x j s)) 58 (0,0))∧LayAt W y bs (scycles x j s).k∧
 W.heap[w.heap.size + 1]? =some (.cells #[.slice none 0 0,.slice none 0 0,.int .i64 0,.slice none 0 0,.slice none 0 0,.int .i64 0,.slice none 0 0,.int .u64 0,.slice none 0 0,.slice none 0 0,.slice none 0 0,.slice none 0 0,.string ⟨#[]⟩,.slice none 0 0,.slice none 0 0,.int .i64 0,.int .i64 0,.int .i64 0,.int .i64 0] 58 (0,0))∧W.heap[w.heap.size]? =some (.cells qc 66 (0,0))∧KR.Kept b w W
theorem sat_succ {g:SGuest} {l:List SDeed} {i:Nat} {a:SDeed} (h:l[i]? =some a):sat g l (i + 1)=sdeed g.x (sat g l i) a:=by
 unfold sat
 rw [List.take_add_one,h,Option.toList_some,List.foldl_append]
 rfl
theorem sgcells_part (g:SGuest) (iv ov nv:Value):(sgcells g iv ov nv).extract 0 (0 + 4)=g.x.cells:=by
 unfold sgcells Part.cells
 simp
def sdeed0 (s:Seat) (a:SDeed):Seat:=if a.kind=2 then sarrive s a.n a.body else if a.kind=3 then swindow s else s
theorem sdeed_of (x:Part) (s:Seat) (a:SDeed):sdeed x s a=if a.kind=1 then scycles x (steps a.n).toNat (sdeed0 s a) else sdeed0 s a:=by
 unfold sdeed sdeed0
 by_cases h2:a.kind=2
 · rw [if_pos h2,if_pos h2,if_neg (by omega)]
 · by_cases h3:a.kind=3
   · rw [if_neg h2,if_neg h2,if_pos h3,if_pos h3,if_neg (by omega)]
   · rw [if_neg h2,if_neg h2,if_neg h3,if_neg h3]
theorem SGood.deed0 {n:Nat} {s:Seat} (h:SGood n s) (a:SDeed) (ha:a.body.size≤140737488355328):SGood (n + 1) (sdeed0 s a):=by
 unfold sdeed0
 split
 · exact h.arrive _ _ ha
 · split
   · exact h.window.mono (Nat.le_succ n)
   · exact h.mono (Nat.le_succ n)
theorem SSPlays (g:SGuest) (iv ov nv lv:Value) (l:List SDeed) (w:World) (hi:Rd 1 strCells w iv g.images) (ho:Rd 5 Chan.cells w ov g.outs) (hn:Rd 5 Chan.cells w nv g.ins_) (hl:Rd 3 SDeed.cells w lv l) (hg:SGuestOk g) (hs:SmallSDeeds l) (hT:Tab w):
 Calls Tryz.prog 23 #[.agg (sgcells g iv ov nv),lv] w (GivesS (splays g l) w):=by
 have HG:=hU hg
 have HS:=hU hs
 have HT:=hU (fun W (h:Below w.heap.size w W)=> hT.below h)
 obtain ⟨la,lc,rfl,hlc,hlm⟩:=hl.shape
 have HLV:=hU hl.elem.2.2.2
 obtain ⟨q0,q1⟩:=two_new w w.heap.size (.cells (sgcells g iv ov nv) 66) (.cells #[.slice none 0 0,.slice none 0 0,.int .i64 0,.slice none 0 0,.slice none 0 0,.int .i64 0,.slice none 0 0,.int .u64 0,.slice none 0 0,.slice none 0 0,.slice none 0 0,.slice none 0 0,.string ⟨#[]⟩,.slice none 0 0,.slice none 0 0,.int .i64 0,.int .i64 0,.int .i64 0,.int .i64 0] 58) rfl
 have hb0:Below w.heap.size w ((w.alloc (.cells (sgcells g iv ov nv) 66)).alloc (.cells #[.slice none 0 0,.slice none 0 0,.int .i64 0,.slice none 0 0,.slice none 0 0,.int .i64 0,.slice none 0 0,.int .u64 0,.slice none 0 0,.slice none 0 0,.slice none 0 0,.slice none 0 0,.string ⟨#[]⟩,.slice none 0 0,.slice none 0 0,.int .i64 0,.int .i64 0,.int .i64 0,.int .i64 0] 58)):=bel
 obtain ⟨W0,hW0⟩:=exW ((w.alloc (.cells (sgcells g iv ov nv) 66)).alloc (.cells #[.slice none 0 0,.slice none 0 0,.int .i64 0,.slice none 0 0,.slice none 0 0,.int .i64 0,.slice none 0 0,.int .u64 0,.slice none 0 0,.slice none 0 0,.slice none 0 0,.slice none 0 0,.string ⟨#[]⟩,.slice none 0 0,.slice none 0 0,.int .i64 0,.int .i64 0,.int .i64 0,.int .i64 0] 58))
 rw [hW0] at q0 q1 hb0
 have g1:W0.cell? ⟨w.heap.size,4,none⟩=some iv:=hcell q0 4
 have g2:W0.cell? ⟨w.heap.size,5,none⟩=some ov:=hcell q0 5
 have g3:W0.cell? ⟨w.heap.size,6,none⟩=some nv:=hcell q0 6
 have e4:=SBegin g.x iv ov nv g.images g.outs g.ins_ W0 (hi.below hb0) (ho.below hb0) (hn.below hb0) (by have:=hg.im;omega) (by have:=hg.ou;omega) (by have:=hg.ins_;omega) hg.x.m0 hg.x.m1
 have HBT:=hU e4
 have HQ:=hU q0
 have HR:=hU q1
 have HB:=hU hb0
 clear q0 q1 hb0 hi ho hn hl hg hs hT e4
 go_enter Tryz.func23,Tryz.ntmps23
 repeat' (first
  |(rw [hW0];clear hW0)
  |(refine wpList_load (t:=64) (v:=.agg g.x.cells) rfl rfl rfl (run_load_part aggPart HQ.out (sgcells_part _ _ _ _) rfl) ?_)
  |go_values|go_skip|go_guarded|(with_reducible refine wg ?_)|go_step|go_upon)
 refine HBT.out.mono ?_
 rintro er W1 ⟨v1,rfl,⟨y0,bs0,rfl,hl0⟩,hb1⟩
 clear g1 g2 g3 HBT
 have HB1:=hU (HB.out.trans (hb1.mono HB.out.size))
 have HR1:=nB hb1 HR
 have HQ1:=nB hb1 HQ
 have HL1:=hU hl0
 have hz1:=hlt HR1.out
 clear hb1 HB HR HQ hl0
 dsimp only
 obtain ⟨b,hab,hbb⟩:∃ b,W1.heap.size=b∧w.heap.size + 1<b:=⟨_,rfl,hz1⟩
 obtain ⟨W2,hW2,hb2,HK2⟩:=nb1 (.cells #[.slice none 0 0,.slice none 0 0,.int .i64 0,.slice none 0 0,.slice none 0 0,.int .i64 0,.slice none 0 0,.int .u64 0,.slice none 0 0,.slice none 0 0,.slice none 0 0,.slice none 0 0,.string ⟨#[]⟩,.slice none 0 0,.slice none 0 0,.int .i64 0,.int .i64 0,.int .i64 0,.int .i64 0] 58) hab
 have HB2:=hU (HB1.out.trans (hb2.mono HB1.out.size))
 have HR2:=nB hb2 HR1
 have HQ2:=nB hb2 HQ1
 have HL2:=nL hb2 HL1
 clear hb2 HB1 HR1 HQ1 HL1
 obtain ⟨s0,hs0⟩:∃ s0,sbegin g.x g.images g.outs g.ins_=s0:=⟨_,rfl⟩
 rw [hs0] at HL2 ⊢
 have HS0:=hU hs0
 clear hs0
 have HO:=hU (onesS HL2.out)
 repeat' (first
  |(rw [hW2,hab];clear hW2)
  |(refine wpList_store (t:=58) (v:=.agg (scells y0 s0)) (off:=0) (new:=scells y0 s0) rfl rfl rfl rfl aggSeat.size HK2.out rfl (show 0 + 19≤19 by decide) HO.out rfl ?_;intro W3 hp
    have HK3:=pA hp
    have HR3:=pO hp HR2
    have HQ3:=pO hp HQ2
    have HE3:Hid (KR.Kept b w W3):=pK hp (hU (Kept.of HB2.out))
    have HL3:=pL hp HK2 HL2 noSeat
    clear hp HK2 HR2 HQ2 HB2 HL2)
  |go_values|go_skip|go_guarded|(with_reducible refine wg ?_)|go_step|go_upon)
 clear hab hz1 HO
 go_loopw [6] (fun iv2 wr=> SPlaysR w b g l (sgcells g iv ov nv) iv2 wr) (fun iv2 _=> l.length - (intOf iv2).toNat)
 case atStart=> exact ⟨0,y0,bs0,Nat.zero_le _,Nat.zero_le _,rfl,by rw [show sat g l 0=s0 from HS0.out];exact HK3.out,by rw [show sat g l 0=s0 from HS0.out];exact HL3.out,HR3.out,HQ3.out,HE3.out⟩
 case round=>
  clear HK3 HR3 HQ3 HE3 HL3
  obtain ⟨i,yk,bs,hi,h30,rfl,hk0,hl0,hr0,hq0,he0⟩:=hrel
  obtain ⟨s,hss⟩:∃ s,sat g l i=s:=⟨_,rfl⟩
  have HGD:Hid (SGood (60 * i) s):=hU (by rw [← hss];exact sdeeds_good HG.out HS.out i (by omega))
  rw [hss] at hk0 hl0
  have HSS:=hU hss
  have HK_0:=hU hk0
  have HL_0:=hU hl0
  have HR_0:=hU hr0
  have HQ_0:=hU hq0
  have HE_0:=hU he0
  have hz0:=he0.size
  have hzK:=hlt hk0
  clear hk0 hl0 hr0 hq0 he0 hss
  have hc1:decide ((i:Int)<(l.length:Int))=decide (i<l.length):=by simp
  have hc2:decide ((i:Int)<30)=decide (i<30):=by simp;omega
  by_cases hil:i<l.length∧i<30
  · obtain ⟨hi1,hi2⟩:=hil
    rw [decide_eq_true hi1] at hc1
    rw [decide_eq_true hi2] at hc2
    obtain ⟨a,hx⟩:∃ a,l[i]? =some a:=⟨_,List.getElem?_eq_getElem hi1⟩
    obtain ⟨gb,off,hla,hgb,hcell0⟩:=HLV.out i a hx
    subst hla
    have HC:=hU (fun W (h:KR.Kept b w W)=> hcell0 W (Kept.low h (by omega)))
    have hsm:=HS.out a (List.mem_of_getElem? hx)
    have htk:=sat_succ (g:=g) hx
    rw [HSS.out,sdeed_of] at htk
    have HTK:=hU htk
    have HG2:=hU (HGD.out.deed0 a hsm)
    clear hcell0 hx htk HLV
    have c0:wr.cell? ⟨gb,off + i * 3,none⟩=some (.int .i64 a.kind):=HC.out wr HE_0.out 0 _ rfl
    have hj1:(i:Int)<(l.length:Int):=by omega
    have hj0:(0:Int)≤(i:Int):=by omega
    rcases (by omega:a.kind=2∨a.kind=3∨(a.kind ≠ 2∧a.kind ≠ 3)) with h2|h3|h4
    case' inl=>
     have k2:(a.kind==2)=true:=by simp [h2]
     have k3:(a.kind==3)=false:=by simp [h2]
     repeat' (first|go_values|go_skip|go_guarded|(with_reducible refine wg ?_)|go_step|go_upon)
     refine wp_region_noPanic ?_
     refine go0 (S:=fun W=> (W.heap[b]? =some (.cells (scells yk s) 58 (0,0)))∧(W.cell? ⟨gb,off + i * 3 + 1,none⟩=some (.int .i64 a.n))∧(W.cell? ⟨gb,off + i * 3 + 2,none⟩=some (.string a.body))) [12] (⟨HK_0.out,HC.out _ HE_0.out 1 _ rfl,HC.out _ HE_0.out 2 _ rfl⟩) fun hS=> ?_
     obtain ⟨W1,hWd⟩:=exW wr.drew
     have HK_1:=dB hWd HK_0
     have HR_1:=dB hWd HR_0
     have HQ_1:=dB hWd HQ_0
     have HE_1:=dE hWd HE_0
     have HL_1:=dL hWd HL_0
     rw [hWd] at hS ⊢
     clear hWd
     clear HK_0 HR_0 HQ_0 HE_0 HL_0
     refine tv 0 (.agg (scells yk s)) (fun W hSW=> run_val_load rfl rfl (run_load_whole aggSeat hSW.1 rfl)) ?_
     (try simp only [acts])
     refine tp 1 ?_;try simp only [acts]
     refine tp 2 ?_;try simp only [acts]
     refine tp 3 ?_;try simp only [acts]
     refine tp 4 ?_;try simp only [acts]
     refine tl 5 ?_;try simp only [acts]
     refine tp 6 ?_;try simp only [acts]
     refine tp 7 ?_;try simp only [acts]
     refine tp 8 ?_;try simp only [acts]
     refine tp 9 ?_;try simp only [acts]
     refine tl 10 ?_;try simp only [acts]
     refine ro 11 fun K hK=> ?_
     refine want rfl ?_
     go_simp
     refine (SArrives _ s a.n a.body _ ⟨yk,bs,rfl,HL_1.out⟩ (by have:=HGD.out.k.bl;omega) (by have:=HGD.out.k.il;omega) (fun q hq=> by have:=HGD.out.k.bn q hq;omega)).mono ?_
     rintro er W2 ⟨v2,rfl,⟨y2,bs2,rfl,hl2⟩,hb⟩
     have HK_2:=nB hb HK_1
     have HR_2:=nB hb HR_1
     have HQ_2:=nB hb HQ_1
     have HE_2:=nE hb HE_1
     have HL_2:=nL hb HL_1
     clear HK_1 HR_1 HQ_1 HE_1 HL_1
     clear hb
     dsimp only
     try clear hS
     refine nx hK (⟨HK_2.out,HC.out _ HE_2.out 1 _ rfl,HC.out _ HE_2.out 2 _ rfl⟩) fun hS=> ?_
     clear hK K
     (try simp only [acts])
     clear HL_2
     have HL_2:=hU hl2
     clear hl2
     refine ro 12 fun K hK=> ?_
     refine want rfl ?_
     refine wp_store (v:=.agg (scells y2 (sarrive s a.n a.body))) (off:=0) (new:=scells y2 (sarrive s a.n a.body)) rfl rfl rfl aggSeat.size HK_2.out rfl (show 0 + 19≤19 by decide) (onesS HL_2.out) rfl ?_
     intro W3 hp
     have HL_3:Hid (LayAt W3 y2 bs2 (sarrive s a.n a.body).k):=hU (HL_2.out.put HK_2.out noSeat hp)
     have HE_3:=pK hp HE_2
     have HK_3:Hid (W3.heap[b]? =some (.cells (scells y2 (sarrive s a.n a.body)) 58 (0,0))):=pA hp
     have HR_3:=pO hp HR_2
     have HQ_3:=pT hp HK_2 HQ_2
     clear hp
     clear HK_2 HR_2 HQ_2 HE_2 HL_2
     refine nt hK ?_
     clear hK K
     try clear hS
     (try simp only [acts])
     refine doneL (by kernel_rfl) (NoPanic.normal ?_) _
     try clear hS
     have c0':W3.cell? ⟨gb,off + i * 3,none⟩=some (.int .i64 a.kind):=HC.out _ HE_3.out 0 _ rfl
     clear c0
     have hsd:sdeed0 s a=(sarrive s a.n a.body):=if_pos h2
     repeat' (first|go_values|go_skip|go_guarded|(with_reducible refine wg ?_)|go_step|go_upon)
     obtain ⟨Wz,yz,bz,HKz,HLz,HRz,HQz,HEz,hWz⟩:∃ Wz yz bz,Hid (Wz.heap[b]? =some (.cells (scells yz (sdeed0 s a)) 58 (0,0)))∧Hid (LayAt Wz yz bz (sdeed0 s a).k)∧Hid (Wz.heap[w.heap.size + 1]? =some (.cells #[.slice none 0 0,.slice none 0 0,.int .i64 0,.slice none 0 0,.slice none 0 0,.int .i64 0,.slice none 0 0,.int .u64 0,.slice none 0 0,.slice none 0 0,.slice none 0 0,.slice none 0 0,.string ⟨#[]⟩,.slice none 0 0,.slice none 0 0,.int .i64 0,.int .i64 0,.int .i64 0,.int .i64 0] 58 (0,0)))∧Hid (Wz.heap[w.heap.size]? =some (.cells (sgcells g iv ov nv) 66 (0,0)))∧Hid (KR.Kept b w Wz)∧W3=Wz:=⟨W3,y2,bs2,by rw [hsd];exact HK_3,by rw [hsd];exact HL_3,HR_3,HQ_3,HE_3,rfl⟩
     rw [hWz]
     clear hWz HK_3 HL_3 HR_3 HQ_3 HE_3 hsd
     clear c0' h2 k2 k3
    case' inr.inl=>
     have k2:(a.kind==2)=false:=by simp [h3]
     have k3:(a.kind==3)=true:=by simp [h3]
     repeat' (first|(refine wpList_load (t:=58) (v:=.agg (scells yk s)) rfl rfl rfl (run_load_whole aggSeat HK_0.out rfl) ?_)|go_values|go_skip|go_guarded|(with_reducible refine wg ?_)|go_step|go_upon)
     refine (SWindow _ s _ ⟨yk,bs,rfl,HL_0.out⟩).mono ?_
     rintro er W1 ⟨v,rfl,⟨y2,bs2,rfl,hl2⟩,hb⟩
     have HK_1:=nB hb HK_0
     have HR_1:=nB hb HR_0
     have HQ_1:=nB hb HQ_0
     have HE_1:=nE hb HE_0
     have HL_1:=nL hb HL_0
     clear HK_0 HR_0 HQ_0 HE_0 HL_0
     clear hb HL_1
     have HL_1:=hU hl2
     clear hl2
     dsimp only
     repeat' (first
      |(refine wpList_store (t:=58) (v:=.agg (scells y2 (swindow s))) (off:=0) (new:=scells y2 (swindow s)) rfl rfl rfl rfl aggSeat.size HK_1.out rfl (show 0 + 19≤19 by decide) (onesS HL_1.out) rfl ?_;intro W2 hp
        have HL_2:Hid (LayAt W2 y2 bs2 (swindow s).k):=hU (HL_1.out.put HK_1.out noSeat hp)
        have HE_2:=pK hp HE_1
        have HK_2:Hid (W2.heap[b]? =some (.cells (scells y2 (swindow s)) 58 (0,0))):=pA hp
        have HR_2:=pO hp HR_1
        have HQ_2:=pT hp HK_1 HQ_1
        clear hp
        clear HK_1 HR_1 HQ_1 HE_1 HL_1)
      |go_values|go_skip|go_guarded|(with_reducible refine wg ?_)|go_step|go_upon)
     clear c0
     have hsd:sdeed0 s a=(swindow s):=by unfold sdeed0;rw [if_neg (by omega),if_pos h3]
     repeat' (first|go_values|go_skip|go_guarded|(with_reducible refine wg ?_)|go_step|go_upon)
     obtain ⟨Wz,yz,bz,HKz,HLz,HRz,HQz,HEz,hWz⟩:∃ Wz yz bz,Hid (Wz.heap[b]? =some (.cells (scells yz (sdeed0 s a)) 58 (0,0)))∧Hid (LayAt Wz yz bz (sdeed0 s a).k)∧Hid (Wz.heap[w.heap.size + 1]? =some (.cells #[.slice none 0 0,.slice none 0 0,.int .i64 0,.slice none 0 0,.slice none 0 0,.int .i64 0,.slice none 0 0,.int .u64 0,.slice none 0 0,.slice none 0 0,.slice none 0 0,.slice none 0 0,.string ⟨#[]⟩,.slice none 0 0,.slice none 0 0,.int .i64 0,.int .i64 0,.int .i64 0,.int .i64 0] 58 (0,0)))∧Hid (Wz.heap[w.heap.size]? =some (.cells (sgcells g iv ov nv) 66 (0,0)))∧Hid (KR.Kept b w Wz)∧W2=Wz:=⟨W2,y2,bs2,by rw [hsd];exact HK_2,by rw [hsd];exact HL_2,HR_2,HQ_2,HE_2,rfl⟩
     rw [hWz]
     clear hWz HK_2 HL_2 HR_2 HQ_2 HE_2 hsd
     clear h3 k2 k3
    case' inr.inr=>
     have k2:(a.kind==2)=false:=by simpa using h4.1
     have k3:(a.kind==3)=false:=by simpa using h4.2
     have hsd:sdeed0 s a=s:=by unfold sdeed0;rw [if_neg h4.1,if_neg h4.2]
     repeat' (first|go_values|go_skip|go_guarded|(with_reducible refine wg ?_)|go_step|go_upon)
     obtain ⟨Wz,yz,bz,HKz,HLz,HRz,HQz,HEz,hWz⟩:∃ Wz yz bz,Hid (Wz.heap[b]? =some (.cells (scells yz (sdeed0 s a)) 58 (0,0)))∧Hid (LayAt Wz yz bz (sdeed0 s a).k)∧Hid (Wz.heap[w.heap.size + 1]? =some (.cells #[.slice none 0 0,.slice none 0 0,.int .i64 0,.slice none 0 0,.slice none 0 0,.int .i64 0,.slice none 0 0,.int .u64 0,.slice none 0 0,.slice none 0 0,.slice none 0 0,.slice none 0 0,.string ⟨#[]⟩,.slice none 0 0,.slice none 0 0,.int .i64 0,.int .i64 0,.int .i64 0,.int .i64 0] 58 (0,0)))∧Hid (Wz.heap[w.heap.size]? =some (.cells (sgcells g iv ov nv) 66 (0,0)))∧Hid (KR.Kept b w Wz)∧wr=Wz:=⟨wr,yk,bs,by rw [hsd];exact HK_0,by rw [hsd];exact HL_0,HR_0,HQ_0,HE_0,rfl⟩
     rw [hWz]
     clear hWz HK_0 HL_0 HR_0 HQ_0 HE_0 hsd
     clear c0 h4 k2 k3
    all_goals
     go_loopw [7] (fun jv wr=> SCycR w b g.x (sdeed0 s a) a.kind (steps a.n) (sgcells g iv ov nv) jv wr) (fun jv _=> (steps a.n).toNat - (intOf jv).toNat)
     case atStart=> exact ⟨0,yz,bz,Nat.zero_le _,fun _=> rfl,rfl,HKz.out,HLz.out,HRz.out,HQz.out,HEz.out⟩
     case round=>
      clear HKz HLz HRz HQz HEz
      obtain ⟨j,yj,bj,hjm,hjk,rfl,hk0,hl0,hr0,hq0,he0⟩:=hrel
      obtain ⟨sj,hsj⟩:∃ sj,scycles g.x j (sdeed0 s a)=sj:=⟨_,rfl⟩
      have hst:steps a.n≤60:=by unfold steps;split <;> omega
      have HGJ:Hid (SGood (60 * i + 1 + j) sj):=hU (by rw [← hsj];exact HG2.out.cycles HG.out.x j (by omega))
      have HSJ:=hU hsj
      rw [hsj] at hk0 hl0
      have HK_0:=hU hk0
      have HL_0:=hU hl0
      have HR_0:=hU hr0
      have HQ_0:=hU hq0
      have HE_0:=hU he0
      have hz0:=he0.size
      have hzK:=hlt hk0
      clear hk0 hl0 hr0 hq0 he0 hsj
      have c0:wr.cell? ⟨gb,off + i * 3,none⟩=some (.int .i64 a.kind):=HC.out wr HE_0.out 0 _ rfl
      have c1:wr.cell? ⟨gb,off + i * 3 + 1,none⟩=some (.int .i64 a.n):=HC.out wr HE_0.out 1 _ rfl
      by_cases hgo:(j:Int)<steps a.n∧a.kind=1
      · obtain ⟨hgo1,hgo2⟩:=hgo
        have d1:decide ((j:Int)<steps a.n)=true:=by simp [hgo1]
        have k1:(a.kind==1)=true:=by simp [hgo2]
        have HGO2:=hU hgo2
        clear hgo2
        repeat' (first|go_values|go_skip|go_guarded|(with_reducible refine wg ?_)|go_step|go_upon)
        refine (LCycles a.n _).mono ?_
        rintro er Wx ⟨rfl,rfl⟩
        dsimp only
        repeat' (first
         |(refine wpList_load (t:=64) (v:=.agg g.x.cells) rfl rfl rfl (run_load_part aggPart HQ_0.out (sgcells_part _ _ _ _) rfl) ?_)
         |(refine wpList_load (t:=58) (v:=.agg (scells yj sj)) rfl rfl rfl (run_load_whole aggSeat HK_0.out rfl) ?_)
         |go_values|go_skip|go_guarded|(with_reducible refine wg ?_)|go_step|go_upon)
        refine (SCycle g.x _ sj (60 * i + 1 + j) _ ⟨yj,bj,rfl,HL_0.out⟩ HGJ.out (by omega) HG.out.x (HT.out _ (Kept.low HE_0.out (by omega)))).mono ?_
        rintro er W1 ⟨v,rfl,⟨y2,bs2,rfl,hl2⟩,hb⟩
        have HK_1:=nB hb HK_0
        have HR_1:=nB hb HR_0
        have HQ_1:=nB hb HQ_0
        have HE_1:=nE hb HE_0
        have HL_1:=nL hb HL_0
        clear HK_0 HR_0 HQ_0 HE_0 HL_0
        clear hb HL_1
        have HL_1:=hU hl2
        clear hl2
        dsimp only
        clear c0 c1
        repeat' (first
         |(refine wpList_store (t:=58) (v:=.agg (scells y2 (scycle g.x sj))) (off:=0) (new:=scells y2 (scycle g.x sj)) rfl rfl rfl rfl aggSeat.size HK_1.out rfl (show 0 + 19≤19 by decide) (onesS HL_1.out) rfl ?_;intro W2 hp
           have HL_2:Hid (LayAt W2 y2 bs2 (scycle g.x sj).k):=hU (HL_1.out.put HK_1.out noSeat hp)
           have HE_2:=pK hp HE_1
           have HK_2:Hid (W2.heap[b]? =some (.cells (scells y2 (scycle g.x sj)) 58 (0,0))):=pA hp
           have HR_2:=pO hp HR_1
           have HQ_2:=pT hp HK_1 HQ_1
           clear hp
           clear HK_1 HR_1 HQ_1 HE_1 HL_1)
         |go_values|go_skip|go_guarded|(with_reducible refine wg ?_)|go_step|go_upon)
        have hsc:scycles g.x (j + 1) (sdeed0 s a)=scycle g.x sj:=by rw [scycles_succ,HSJ.out]
        exact ⟨⟨j + 1,y2,bs2,by omega,fun h=> absurd HGO2.out h,by go_num,by rw [hsc];exact HK_2.out,by rw [hsc];exact HL_2.out,HR_2.out,HQ_2.out,HE_2.out⟩,by simp [intOf];omega⟩
      · have hfin:sat g l (i + 1)=sj:=by
         rw [HTK.out]
         by_cases hk1:a.kind=1
         · have:j=(steps a.n).toNat:=by omega
           rw [if_pos hk1,← this,HSJ.out]
         · have:=hjk hk1
           subst this
           rw [if_neg hk1]
           exact HSJ.out
        by_cases hgo1:(j:Int)<steps a.n
        · have hk1:a.kind ≠ 1:=fun h=> hgo ⟨hgo1,h⟩
          have d1:decide ((j:Int)<steps a.n)=true:=by simp [hgo1]
          have k1:(a.kind==1)=false:=by simpa using hk1
          repeat' (first|go_values|go_skip|go_guarded|(with_reducible refine wg ?_)|go_step|go_upon)
          refine (LCycles a.n _).mono ?_
          rintro er Wx ⟨rfl,rfl⟩
          dsimp only
          repeat' (first|go_values|go_skip|go_guarded|(with_reducible refine wg ?_)|go_step|go_upon)
          exact ⟨⟨i + 1,yj,bj,by omega,by omega,by go_num,by rw [hfin];exact HK_0.out,by rw [hfin];exact HL_0.out,HR_0.out,HQ_0.out,HE_0.out⟩,by simp [intOf];omega⟩
        · have d1:decide ((j:Int)<steps a.n)=false:=by simpa using hgo1
          clear hgo
          repeat' (first|go_values|go_skip|go_guarded|(with_reducible refine wg ?_)|go_step|go_upon)
          refine (LCycles a.n _).mono ?_
          rintro er Wx ⟨rfl,rfl⟩
          dsimp only
          repeat' (first|go_values|go_skip|go_guarded|(with_reducible refine wg ?_)|go_step|go_upon)
          exact ⟨⟨i + 1,yj,bj,by omega,by omega,by go_num,by rw [hfin];exact HK_0.out,by rw [hfin];exact HL_0.out,HR_0.out,HQ_0.out,HE_0.out⟩,by simp [intOf];omega⟩
  · have hte:sat g l i=splays g l:=by
     unfold splays sat
     rcases Nat.lt_or_ge i l.length with h|h
     · have:i=30:=by omega
       rw [this]
     · rw [List.take_of_length_le h,List.take_of_length_le (by omega)]
    rw [HSS.out] at hte
    subst hte
    rcases Decidable.em (i<l.length) with hi1|hi1
    case' inl=>
     rw [decide_eq_true hi1] at hc1
     rw [decide_eq_false (by omega)] at hc2
    case' inr=>
     rw [decide_eq_false hi1] at hc1
     clear hc2
    all_goals
     skip
     repeat' (first
      |(refine wpList_load (t:=58) (v:=.agg (scells yk (splays g l))) rfl rfl rfl (run_load_whole aggSeat HK_0.out rfl) ?_)
      |(refine wpList_store (t:=58) (v:=.agg (scells yk (splays g l))) (off:=0) (new:=(scells yk (splays g l))) rfl rfl rfl rfl aggSeat.size HR_0.out rfl (show 0 + 19≤19 by decide) (onesS HL_0.out) rfl ?_;intro W1 hp
        have HE_1:=pE hp HE_0
        have HL_1:=pL hp HR_0 HL_0
        have HR_1:=pA hp
        have HK_1:=pO hp HK_0
        have HQ_1:=pT hp HR_0 HQ_0
        clear hp
        clear HK_0 HR_0 HQ_0 HE_0 HL_0)
      |go_values|go_skip|go_guarded|(with_reducible refine wg ?_)|go_step|go_upon)
     (try simp only [Exit.inBlock,Exit.then]);refine bodyPost_ret (res_cell Tryz.results23 aggSeat rfl HR_1.out rfl) rfl ?_
     exact ⟨_,rfl,⟨_,_,rfl,HL_1.out⟩,Kept.low HE_1.out (by omega)⟩
end Kn
end Go.Proofs.YtkepkcjjenidgaaGreatDoor
