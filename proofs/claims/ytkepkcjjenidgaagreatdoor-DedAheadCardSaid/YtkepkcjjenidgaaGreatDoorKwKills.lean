/- work.kills: one process ends another one. Conditions: as many as Go can hold. -/
import Derived.Test.YtkepkcjjenidgaaGreatDoorGFit
import Derived.Test.YtkepkcjjenidgaaGreatDoorGTab
import Derived.Test.YtkepkcjjenidgaaGreatDoorGEnd
import Derived.Test.YtkepkcjjenidgaaGreatDoorKwEnds
import Derived.Test.YtkepkcjjenidgaaGreatDoorGWork
set_option linter.unusedVariables false
set_option maxRecDepth 100000
set_option maxHeartbeats 8000000
set_option linter.unusedSimpArgs false
namespace Go.Proofs.YtkepkcjjenidgaaGreatDoor
open Go.RowKit KR RegT3
namespace Kn
theorem WKills (b:Nat) (k:Kern) (p:Proc) (x:Call) (w:World) (hk:WorkAt w b k) (hf:Fit k) (hx:CFit x):
 Calls Tryz.prog 167 #[.pointer (some ⟨b,0,none⟩),.agg p.cells,.agg x.cells] w (GivesW b (.bool (killsB k p x)) (kills k p x) w):=by
 obtain ⟨y,bs,hk0,hl⟩:=hk
 have hbl:=hlt hk0
 have hn:k.p.length≤1000000:=Nat.le_trans hf.n (by omega)
 have hxa:IntKind.i64.wrap x.a=x.a:=by rw [IntKind.wrap_i64];have:=hx.a0;have:=hx.a1;omega
 obtain ⟨q,hq⟩:∃ q,(find k.p x.a).getD Proc.zero=q:=⟨_,rfl⟩
 obtain ⟨f,hfi⟩:∃ f,(find k.p x.a).isSome=f:=⟨_,rfl⟩
 have hv:victim k x=(f && !(q.st==4)):=by rw [victim,← hq,← hfi];cases find k.p x.a <;> rfl
 have hqp:f=true→q.pid=x.a:=by
  intro h
  rw [← hq]
  cases hz:find k.p x.a with
  |none=> rw [hz] at hfi;rw [← hfi] at h;cases h
  |some z=> have:=List.find?_some hz;simpa using this
 have HF:=hU (fun W h=> show Calls Tryz.prog 123 #[y.p,.int .i64 x.a] W (Gives (.tuple #[.agg q.cells,.bool f]) W) by rw [← hq,← hfi];exact TFind y.p k.p x.a W h)
 have HV:=hU hv
 have HQP:=hU hqp
 have HFT:=hU hf
 clear hv hqp hq hfi hf hx
 obtain ⟨W0,hW0,HK_0,HP_0,HX_0,HE_0,HL_0,hz0,hzK,hzP,hzX⟩:=st2 p.cells 167 x.cells 165 hk0 hl
 go_enter Tryz.func167,Tryz.ntmps167
 repeat' (first
  |(rw [hW0];clear hW0)
  |go_values|go_skip|go_guarded|(with_reducible refine wg ?_)|go_step|go_upon)
 refine wp_region_noPanic ?_
 refine go0 (S:=fun W=> (W.cell? ⟨b,0,none⟩=some y.p)∧(W.cell? ⟨w.heap.size + 1,1,none⟩=some (.int .u32 x.a))) [13] (⟨hcell HK_0.out 0,hcell HX_0.out 1⟩) fun hS=> ?_
 obtain ⟨W1,hWd⟩:=exW W0.drew
 have HK_1:=dB hWd HK_0
 have HP_1:=dB hWd HP_0
 have HX_1:=dB hWd HX_0
 have HE_1:=dE hWd HE_0
 have HL_1:=dL hWd HL_0
 rw [hWd] at hS ⊢
 clear hWd
 clear HK_0 HP_0 HX_0 HE_0 HL_0
 refine tp 0 ?_;try simp only [acts]
 refine tp 1 ?_;try simp only [acts]
 refine tp 2 ?_;try simp only [acts]
 refine tp 3 ?_;try simp only [acts]
 refine tl 4 ?_;try simp only [acts]
 refine tp 5 ?_;try simp only [acts]
 refine tl 6 ?_;try simp only [acts]
 refine tp 7 ?_;try simp only [acts]
 clear hS
 revert HK_1 HP_1 HX_1 HE_1 HL_1
 apply KR.join2 (F:=fun (abQ:Nat) (W3:World)=> Hid (W3.heap[b]? =some (.cells (kcells y k) 178 (0,0)))∧Hid (W3.heap[w.heap.size]? =some (.cells p.cells 167 (0,0)))∧Hid (W3.heap[abQ]? =some (.cells #[.int .i64 0,.int .i64 0,.int .i64 0,.int .u32 0,.int .u32 0,.int .u32 0,.int .u32 0,.int .u32 0,.int .u32 0,.int .u32 0,.int .u32 0,.int .u32 0,.string ⟨#[]⟩,.int .i64 0,.int .i64 0,.bool false,.int .i64 0,.bool false,.int .i64 0,.bool false,.int .i64 0,.bool false,.int .u32 0,.int .u32 0,.int .u32 0,.int .u32 0] 167 (0,0)))∧Hid (W3.heap[(w.heap.size + 1)]? =some (.cells x.cells 165 (0,0)))∧Hid (KR.Kept b w W3)∧Hid (LayAt W3 y bs k)∧(w.heap.size≤abQ)∧(b<abQ)∧(w.heap.size<abQ)∧(w.heap.size + 1<abQ)∧(OffRow y.p k.p.length abQ))
 case h2=>
  intro hj HK_1 HP_1 HX_1 HE_1 HL_1
  refine twoL (i:=8) (j:=12) (by kernel_rfl) rfl rfl (fun K hK=> ?_) (fun K hK=> ?_)
  · skip
    refine want rfl ?_
    go_simp
    refine (HF.out _ HL_1.out.p).mono ?_
    rintro er W2 ⟨rfl,hb⟩
    have HK_2:=nB hb HK_1
    have HP_2:=nB hb HP_1
    have HX_2:=nB hb HX_1
    have HE_2:=nE hb HE_1
    have HL_2:=nL hb HL_1
    clear HK_1 HP_1 HX_1 HE_1 HL_1
    clear hb
    dsimp only
    try clear hS
    refine nx hK (⟨hcell HK_2.out 0,hcell HX_2.out 1⟩) fun hS=> ?_
    clear hK K
    (try simp only [acts])
    refine tp 9 ?_;try simp only [acts]
    refine tp 10 ?_;try simp only [acts]
    refine tp 11 ?_;try simp only [acts]
    refine ro 12 fun K hK=> ?_
    obtain ⟨abQ,hab,hab1Q⟩:=nb0 HE_2
    have habKQ:=nlt HK_2 hab
    have habPQ:=nlt HP_2 hab
    have habXQ:=nlt HX_2 hab
    have hoffQ:=HL_2.out.p.offNew (Nat.le_of_eq hab)
    go_simp
    obtain ⟨W3,hWn,hba,HQ_3⟩:=nb1 (.cells #[.int .i64 0,.int .i64 0,.int .i64 0,.int .u32 0,.int .u32 0,.int .u32 0,.int .u32 0,.int .u32 0,.int .u32 0,.int .u32 0,.int .u32 0,.int .u32 0,.string ⟨#[]⟩,.int .i64 0,.int .i64 0,.bool false,.int .i64 0,.bool false,.int .i64 0,.bool false,.int .i64 0,.bool false,.int .u32 0,.int .u32 0,.int .u32 0,.int .u32 0] 167) hab
    rw [hWn]
    clear hWn
    have HK_3:=nB hba HK_2
    have HP_3:=nB hba HP_2
    have HX_3:=nB hba HX_2
    have HE_3:=nE hba HE_2
    have HL_3:=nL hba HL_2
    clear HK_2 HP_2 HX_2 HE_2 HL_2
    clear hba
    try rw [hab]
    clear hab
    try clear hS
    refine nx hK (⟨hcell HK_3.out 0,hcell HX_3.out 1⟩) fun hS=> ?_
    clear hK K
    (try simp only [acts])
    exact hj abQ W3 ⟨HK_3,HP_3,HQ_3,HX_3,HE_3,HL_3,hab1Q,habKQ,habPQ,habXQ,hoffQ⟩
  · skip
    obtain ⟨abQ,hab,hab1Q⟩:=nb0 HE_1
    have habKQ:=nlt HK_1 hab
    have habPQ:=nlt HP_1 hab
    have habXQ:=nlt HX_1 hab
    have hoffQ:=HL_1.out.p.offNew (Nat.le_of_eq hab)
    go_simp
    obtain ⟨W2,hWn,hba,HQ_2⟩:=nb1 (.cells #[.int .i64 0,.int .i64 0,.int .i64 0,.int .u32 0,.int .u32 0,.int .u32 0,.int .u32 0,.int .u32 0,.int .u32 0,.int .u32 0,.int .u32 0,.int .u32 0,.string ⟨#[]⟩,.int .i64 0,.int .i64 0,.bool false,.int .i64 0,.bool false,.int .i64 0,.bool false,.int .i64 0,.bool false,.int .u32 0,.int .u32 0,.int .u32 0,.int .u32 0] 167) hab
    rw [hWn]
    clear hWn
    have HK_2:=nB hba HK_1
    have HP_2:=nB hba HP_1
    have HX_2:=nB hba HX_1
    have HE_2:=nE hba HE_1
    have HL_2:=nL hba HL_1
    clear HK_1 HP_1 HX_1 HE_1 HL_1
    clear hba
    try rw [hab]
    clear hab
    try clear hS
    refine nx hK (⟨hcell HK_2.out 0,hcell HX_2.out 1⟩) fun hS=> ?_
    clear hK K
    (try simp only [acts])
    refine ro 8 fun K hK=> ?_
    refine want rfl ?_
    go_simp
    refine (HF.out _ HL_2.out.p).mono ?_
    rintro er W3 ⟨rfl,hb⟩
    have HK_3:=nB hb HK_2
    have HP_3:=nB hb HP_2
    have HX_3:=nB hb HX_2
    have HQ_3:=nB hb HQ_2
    have HE_3:=nE hb HE_2
    have HL_3:=nL hb HL_2
    clear HK_2 HP_2 HX_2 HQ_2 HE_2 HL_2
    clear hb
    dsimp only
    try clear hS
    refine nx hK (⟨hcell HK_3.out 0,hcell HX_3.out 1⟩) fun hS=> ?_
    clear hK K
    (try simp only [acts])
    refine tp 9 ?_;try simp only [acts]
    refine tp 10 ?_;try simp only [acts]
    refine tp 11 ?_;try simp only [acts]
    exact hj abQ W3 ⟨HK_3,HP_3,HQ_3,HX_3,HE_3,HL_3,hab1Q,habKQ,habPQ,habXQ,hoffQ⟩
 rintro abQ W3 ⟨HK_3,HP_3,HQ_3,HX_3,HE_3,HL_3,hab1Q,habKQ,habPQ,habXQ,hoffQ⟩
 have hS:(fun W:World=> (W.cell? ⟨b,0,none⟩=some y.p)∧(W.cell? ⟨w.heap.size + 1,1,none⟩=some (.int .u32 x.a))) W3:=⟨hcell HK_3.out 0,hcell HX_3.out 1⟩
 refine ro 13 fun K hK=> ?_
 refine want rfl ?_
 refine wp_store (v:=.agg q.cells) (off:=0) (new:=q.cells) rfl rfl rfl aggProc.size HQ_3.out rfl (show 0 + 26≤26 by decide) (onesProc q) rfl ?_
 intro W4 hp
 have HE_4:=pE hp HE_3
 have HL_4:Hid (LayAt W4 y bs k):=hU (HL_3.out.putProc (HL_3.out.p.putOff hoffQ hp) HQ_3.out hp)
 have HQ_4:=pA hp
 have HK_4:=pT hp HQ_3 HK_3
 have HP_4:=pO hp HP_3
 have HX_4:=pT hp HQ_3 HX_3
 clear hp
 clear HK_3 HP_3 HX_3 HQ_3 HE_3 HL_3
 refine nt hK ?_
 clear hK K
 try clear hS
 (try simp only [acts])
 refine tp 14 ?_;try simp only [acts]
 refine doneL (by kernel_rfl) (NoPanic.normal ?_) _
 try clear hS
 have kA:W4.cell? ⟨w.heap.size + 1,1,none⟩=some (.int .u32 x.a):=hcell HX_4.out 1
 have kQ2:W4.cell? ⟨abQ,2,none⟩=some (.int .i64 q.st):=hcell HQ_4.out 2
 have kQ0:W4.cell? ⟨abQ,0,none⟩=some (.int .i64 q.pid):=hcell HQ_4.out 0
 have zQ:=hlt HQ_4.out
 have zX:=hlt HX_4.out
 by_cases h1:x.a=1
 · have HB1:Hid (killsB k p x=true):=hU (by rw [killsB,decide_eq_true h1];rfl)
   have HA:Hid (kills k p x=answer k p x 0 13):=hU (by rw [kills,if_pos h1])
   have h1b:(x.a==1)=true:=by simp [h1]
   clear h1
   repeat' (first
    |(refine wpList_load (t:=167) (v:=.agg p.cells) rfl rfl rfl (run_load_whole aggProc HP_4.out rfl) ?_)
    |(refine wpList_load (t:=165) (v:=.agg x.cells) rfl rfl rfl (run_load_whole aggCall HX_4.out rfl) ?_)
    |go_values|go_skip|go_guarded|(with_reducible refine wg ?_)|go_step|go_upon)
   refine (WAnswer b k p x 0 13 _ ⟨_,_,HK_4.out,HL_4.out⟩ (by decide) (by decide) hn HFT.out.tr).mono ?_
   rintro er W5 ⟨hret,⟨y5,bs5,hkk,hll⟩,hke⟩
   have HP_5:=mB hke HP_4
   have HX_5:=mB hke HX_4
   have HQ_5:=mB hke HQ_4
   have HK_5:=hU hkk
   have HE_5:=mE hke HE_4
   have HL_5:=hU hll
   clear hkk hll hke
   clear HK_4 HP_4 HX_4 HQ_4 HE_4 HL_4
   obtain ⟨er2,rfl⟩:=hret
   dsimp only
   repeat' (first|go_values|go_skip|go_guarded|(with_reducible refine wg ?_)|go_step|go_upon)
   go_ret
   rw [HB1.out,HA.out]
   exact ⟨rfl,⟨_,_,HK_5.out,HL_5.out⟩,HE_5.out⟩
 have h1b:(x.a==1)=false:=by simp [h1]
 cases f
 · have hvf:victim k x=false:=HV.out
   have HB1:Hid (killsB k p x=true):=hU (by rw [killsB,hvf];simp)
   have HA:Hid (kills k p x=answer k p x 0 7):=hU (by rw [kills,if_neg h1,if_pos hvf])
   clear h1 hvf
   repeat' (first
    |(refine wpList_load (t:=167) (v:=.agg p.cells) rfl rfl rfl (run_load_whole aggProc HP_4.out rfl) ?_)
    |(refine wpList_load (t:=165) (v:=.agg x.cells) rfl rfl rfl (run_load_whole aggCall HX_4.out rfl) ?_)
    |go_values|go_skip|go_guarded|(with_reducible refine wg ?_)|go_step|go_upon)
   refine (WAnswer b k p x 0 7 _ ⟨_,_,HK_4.out,HL_4.out⟩ (by decide) (by decide) hn HFT.out.tr).mono ?_
   rintro er W5 ⟨hret,⟨y5,bs5,hkk,hll⟩,hke⟩
   have HP_5:=mB hke HP_4
   have HX_5:=mB hke HX_4
   have HQ_5:=mB hke HQ_4
   have HK_5:=hU hkk
   have HE_5:=mE hke HE_4
   have HL_5:=hU hll
   clear hkk hll hke
   clear HK_4 HP_4 HX_4 HQ_4 HE_4 HL_4
   obtain ⟨er2,rfl⟩:=hret
   dsimp only
   repeat' (first|go_values|go_skip|go_guarded|(with_reducible refine wg ?_)|go_step|go_upon)
   go_ret
   rw [HB1.out,HA.out]
   exact ⟨rfl,⟨_,_,HK_5.out,HL_5.out⟩,HE_5.out⟩
 cases h4:(q.st==4)
 rotate_left
 · have hvf:victim k x=false:=by rw [HV.out,h4];rfl
   have HB1:Hid (killsB k p x=true):=hU (by rw [killsB,hvf];simp)
   have HA:Hid (kills k p x=answer k p x 0 7):=hU (by rw [kills,if_neg h1,if_pos hvf])
   clear h1 hvf
   repeat' (first
    |(refine wpList_load (t:=167) (v:=.agg p.cells) rfl rfl rfl (run_load_whole aggProc HP_4.out rfl) ?_)
    |(refine wpList_load (t:=165) (v:=.agg x.cells) rfl rfl rfl (run_load_whole aggCall HX_4.out rfl) ?_)
    |go_values|go_skip|go_guarded|(with_reducible refine wg ?_)|go_step|go_upon)
   refine (WAnswer b k p x 0 7 _ ⟨_,_,HK_4.out,HL_4.out⟩ (by decide) (by decide) hn HFT.out.tr).mono ?_
   rintro er W5 ⟨hret,⟨y5,bs5,hkk,hll⟩,hke⟩
   have HP_5:=mB hke HP_4
   have HX_5:=mB hke HX_4
   have HQ_5:=mB hke HQ_4
   have HK_5:=hU hkk
   have HE_5:=mE hke HE_4
   have HL_5:=hU hll
   clear hkk hll hke
   clear HK_4 HP_4 HX_4 HQ_4 HE_4 HL_4
   obtain ⟨er2,rfl⟩:=hret
   dsimp only
   repeat' (first|go_values|go_skip|go_guarded|(with_reducible refine wg ?_)|go_step|go_upon)
   go_ret
   rw [HB1.out,HA.out]
   exact ⟨rfl,⟨_,_,HK_5.out,HL_5.out⟩,HE_5.out⟩
 have hvt:victim k x=true:=by rw [HV.out,h4];rfl
 have hqa:=HQP.out rfl
 rw [hqa] at kQ0
 have HQA:=hU hqa
 have HVT:=hU hvt
 have H1:=hU h1
 clear hqa hvt h1
 repeat' (first
  |go_values|go_skip|go_guarded|(with_reducible refine wg ?_)|go_step|go_upon)
 refine (WEnds b k x.a 137 0 _ ⟨_,_,HK_4.out,HL_4.out⟩ hn HFT.out.t HFT.out.a HFT.out.pl HFT.out.pb HFT.out.hl (by decide) (by decide)).mono ?_
 rintro er W5 ⟨hret,⟨y5,bs5,hkk,hll⟩,hke⟩
 have HP_5:=mB hke HP_4
 have HX_5:=mB hke HX_4
 have HQ_5:=mB hke HQ_4
 have HK_5:=hU hkk
 have HE_5:=mE hke HE_4
 have HL_5:=hU hll
 clear hkk hll hke
 clear HK_4 HP_4 HX_4 HQ_4 HE_4 HL_4
 obtain ⟨er2,rfl⟩:=hret
 dsimp only
 clear kA kQ2 kQ0
 have kQ0:W5.cell? ⟨abQ,0,none⟩=some (.int .i64 x.a):=(hcell HQ_5.out 0).trans (congrArg (fun z=> some (Value.int .i64 z)) HQA.out)
 have kP0:W5.cell? ⟨w.heap.size,0,none⟩=some (.int .i64 p.pid):=hcell HP_5.out 0
 by_cases hs:x.a=p.pid
 · have HB1:Hid (killsB k p x=false):=hU (by rw [killsB,decide_eq_true hs,HVT.out,decide_eq_false H1.out];rfl)
   have HA:Hid (kills k p x=ends k x.a 137 0):=hU (by rw [kills,if_neg H1.out,if_neg (by rw [HVT.out];simp)];exact if_pos hs)
   have hsb:(x.a==p.pid)=true:=by simp [hs]
   clear hs
   repeat' (first
    |go_values|go_skip|go_guarded|(with_reducible refine wg ?_)|go_step|go_upon)
   go_ret
   rw [HB1.out,HA.out]
   exact ⟨rfl,⟨_,_,HK_5.out,HL_5.out⟩,HE_5.out⟩
 obtain ⟨p2,hp2⟩:∃ p2,(find (ends k x.a 137 0).p p.pid).getD Proc.zero=p2:=⟨_,rfl⟩
 have HB1:Hid (killsB k p x=true):=hU (by rw [killsB,decide_eq_false hs,HVT.out];simp)
 have HA:Hid (kills k p x=answer (ends k x.a 137 0) p2 x 0 0):=hU (by rw [kills,if_neg H1.out,if_neg (by rw [HVT.out];simp),← hp2];exact if_neg hs)
 have hsb:(x.a==p.pid)=false:=by simp [hs]
 clear hs
 have hlen:(ends k x.a 137 0).p.length≤1000000:=Nat.le_trans (ends_length k x.a 137 0) (by have:=HFT.out.n;omega)
 have htr:(ends k x.a 137 0).trace.length≤1000000:=by rw [ends_trace];exact HFT.out.tr
 have HF2:=hU (fun W h=> show Calls Tryz.prog 123 #[y5.p,.int .i64 p.pid] W (Gives (.tuple #[.agg p2.cells,.bool (find (ends k x.a 137 0).p p.pid).isSome]) W) by rw [← hp2];exact TFind y5.p (ends k x.a 137 0).p p.pid W h)
 have HPP:=hU hp2
 clear hp2
 repeat' (first
  |go_values|go_skip|go_guarded|(with_reducible refine wg ?_)|go_step|go_upon)
 clear kQ0 kP0
 refine wp_region_noPanic ?_
 refine go0 (S:=fun W=> (W.cell? ⟨b,0,none⟩=some y5.p)∧(W.cell? ⟨w.heap.size,0,none⟩=some (.int .i64 p.pid))) [11] (⟨hcell HK_5.out 0,hcell HP_5.out 0⟩) fun hS=> ?_
 obtain ⟨W6,hWd⟩:=exW W5.drew
 have HK_6:=dB hWd HK_5
 have HP_6:=dB hWd HP_5
 have HX_6:=dB hWd HX_5
 have HQ_6:=dB hWd HQ_5
 have HE_6:=dE hWd HE_5
 have HL_6:=dL hWd HL_5
 rw [hWd] at hS ⊢
 clear hWd
 clear HK_5 HP_5 HX_5 HQ_5 HE_5 HL_5
 refine tp 0 ?_;try simp only [acts]
 refine tp 1 ?_;try simp only [acts]
 refine tp 2 ?_;try simp only [acts]
 refine tp 3 ?_;try simp only [acts]
 refine tl 4 ?_;try simp only [acts]
 refine tp 5 ?_;try simp only [acts]
 refine tl 6 ?_;try simp only [acts]
 refine ro 7 fun K hK=> ?_
 refine want rfl ?_
 go_simp
 refine (HF2.out _ HL_6.out.p).mono ?_
 rintro er W7 ⟨rfl,hb⟩
 have HK_7:=nB hb HK_6
 have HP_7:=nB hb HP_6
 have HX_7:=nB hb HX_6
 have HQ_7:=nB hb HQ_6
 have HE_7:=nE hb HE_6
 have HL_7:=nL hb HL_6
 clear HK_6 HP_6 HX_6 HQ_6 HE_6 HL_6
 clear hb
 dsimp only
 try clear hS
 refine nx hK (⟨hcell HK_7.out 0,hcell HP_7.out 0⟩) fun hS=> ?_
 clear hK K
 (try simp only [acts])
 refine tp 8 ?_;try simp only [acts]
 refine tp 9 ?_;try simp only [acts]
 refine tp 10 ?_;try simp only [acts]
 refine ro 11 fun K hK=> ?_
 refine want rfl ?_
 refine wp_store (v:=.agg p2.cells) (off:=0) (new:=p2.cells) rfl rfl rfl aggProc.size HP_7.out rfl (show 0 + 26≤26 by decide) (onesProc p2) rfl ?_
 intro W8 hp
 have HE_8:=pE hp HE_7
 have HL_8:Hid (LayAt W8 y5 bs5 (ends k x.a 137 0)):=hU (HL_7.out.putProc (SlP.refind HL_7.out.p HP_7.out (by rw [HPP.out];exact hp)) HP_7.out hp)
 have HP_8:=pA hp
 have HK_8:=pT hp HP_7 HK_7
 have HX_8:=pT hp HP_7 HX_7
 have HQ_8:=pO hp HQ_7
 clear hp
 clear HK_7 HP_7 HX_7 HQ_7 HE_7 HL_7
 refine nt hK ?_
 clear hK K
 try clear hS
 (try simp only [acts])
 refine doneL (by kernel_rfl) (NoPanic.normal ?_) _
 try clear hS
 repeat' (first
  |(refine wpList_load (t:=167) (v:=.agg p2.cells) rfl rfl rfl (run_load_whole aggProc HP_8.out rfl) ?_)
  |(refine wpList_load (t:=165) (v:=.agg x.cells) rfl rfl rfl (run_load_whole aggCall HX_8.out rfl) ?_)
  |go_values|go_skip|go_guarded|(with_reducible refine wg ?_)|go_step|go_upon)
 refine (WAnswer b (ends k x.a 137 0) p2 x 0 0 _ ⟨_,_,HK_8.out,HL_8.out⟩ (by decide) (by decide) hlen htr).mono ?_
 rintro er W9 ⟨hret,⟨y9,bs9,hkk,hll⟩,hke⟩
 have HP_9:=mB hke HP_8
 have HX_9:=mB hke HX_8
 have HQ_9:=mB hke HQ_8
 have HK_9:=hU hkk
 have HE_9:=mE hke HE_8
 have HL_9:=hU hll
 clear hkk hll hke
 clear HK_8 HP_8 HX_8 HQ_8 HE_8 HL_8
 obtain ⟨er2,rfl⟩:=hret
 dsimp only
 repeat' (first|go_values|go_skip|go_guarded|(with_reducible refine wg ?_)|go_step|go_upon)
 go_ret
 rw [HB1.out,HA.out]
 exact ⟨rfl,⟨_,_,HK_9.out,HL_9.out⟩,HE_9.out⟩
end Kn
end Go.Proofs.YtkepkcjjenidgaaGreatDoor
