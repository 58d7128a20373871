/- work.answer: a call is answered. Conditions: as many as Go can hold; an error's number is small. work.stops: a process waits, or sleeps. Conditions: as many as Go can hold. work.end: an end of a process, if there is one. Condition: a word's number. -/
import Derived.Test.YtkepkcjjenidgaaGreatDoorGWork
import Derived.Test.YtkepkcjjenidgaaGreatDoorGRo
set_option linter.unusedVariables false
set_option maxRecDepth 100000
set_option maxHeartbeats 8000000
set_option linter.unusedSimpArgs false
namespace Go.Proofs.YtkepkcjjenidgaaGreatDoor
open Go.RowKit KR RegT3
namespace Kn
theorem clipEv (a:Option Addr) (n c:Nat) (w:World) (h:n≤c):Calls Tryz.prog 149 #[.slice a n c] w (Is (.slice a n n) w):=by
 go_enter Tryz.func149,Tryz.ntmps149
 repeat' (first|go_values|go_skip|go_guarded|(with_reducible refine wg ?_)|go_step|go_upon)
 go_ret
 exact ⟨rfl,rfl⟩
theorem WAnswer (b:Nat) (k:Kern) (p:Proc) (x:Call) (v e:Int) (w:World) (hk:WorkAt w b k) (he0:0≤e) (he1:e<100) (hn:k.p.length≤1000000) (ht:k.trace.length≤1000000):
 Calls Tryz.prog 124 #[.pointer (some ⟨b,0,none⟩),.agg p.cells,.agg x.cells,.int .u32 v,.int .i64 e] w (GivesU b (answer k p x v e) w):=by
 obtain ⟨y,bs,hk0,hl⟩:=hk
 have hbl:=hlt hk0
 go_enter Tryz.func124,Tryz.ntmps124
 obtain ⟨W0,hW0,HK_0,HP_0,HX_0,HE_0,HL_0,hz0,hzK,hzP,hzX⟩:=st2 p.cells 167 x.cells 165 hk0 hl
 repeat' (first
  |(rw [hW0];clear hW0)
  |(refine wpList_load (t:=160) (v:=.agg (cpuCells p.r0 p.r1 p.r2 p.r3 p.r4 p.r5 p.r6 p.r7 p.pc)) rfl rfl rfl (run_load_part aggCpu HP_0.out rfl rfl) ?_)
  |go_values|go_skip|go_guarded|(with_reducible refine wg ?_)|go_step|go_upon)
 refine (CBack p.r0 p.r1 p.r2 p.r3 p.r4 p.r5 p.r6 p.r7 p.pc e v _ he0 he1).mono ?_
 rintro er W1 ⟨rfl,hb⟩
 have HK_1:=nB hb HK_0
 have HP_1:=nB hb HP_0
 have HX_1:=nB hb HX_0
 have HE_1:=nE hb HE_0
 have HL_1:=nL hb HL_0
 clear HK_0 HP_0 HX_0 HE_0 HL_0
 clear hb
 dsimp only
 repeat' (first
  |(refine wpList_store (t:=160) (v:=.agg (cpuCells (cval e v) p.r1 p.r2 p.r3 p.r4 p.r5 p.r6 p.r7 p.pc)) (off:=3) (new:=({p with r0:=cval e v}:Proc).cells) rfl rfl rfl rfl aggCpu.size HP_1.out rfl (show 3 + 9≤26 by decide) (by intro u hu;simp [Value.cells,cpuCells] at hu;rcases hu with rfl|rfl|rfl|rfl|rfl|rfl|rfl|rfl|rfl <;> rfl) rfl ?_;intro W2 hp
    have HE_2:=pE hp HE_1
    have HL_2:Hid (LayAt W2 y bs k):=hU (hl.kept hk0 noWork HE_2.out)
    have HP_2:=pA hp
    have HK_2:=pT hp HP_1 HK_1
    have HX_2:=pT hp HP_1 HX_1
    clear hp
    clear HK_1 HP_1 HX_1 HE_1 HL_1)
  |(refine wpList_store1 (t:=3) (v:=.int .i64 1) (off:=2) (new:=({p with r0:=cval e v,st:=1}:Proc).cells) rfl rfl rfl rfl oneInt HP_2.out rfl rfl (show 2 + 1≤26 by decide) rfl ?_;intro W3 hp
    have HE_3:=pE hp HE_2
    have HL_3:Hid (LayAt W3 y bs k):=hU (hl.kept hk0 noWork HE_3.out)
    have HP_3:=pA hp
    have HK_3:=pT hp HP_2 HK_2
    have HX_3:=pT hp HP_2 HX_2
    clear hp
    clear HK_2 HP_2 HX_2 HE_2 HL_2)
  |(refine wpList_store (t:=165) (v:=.agg #[.int .u32 0,.int .u32 0,.int .u32 0,.int .u32 0]) (off:=22) (new:=(back p v e).cells) rfl rfl rfl rfl aggCall.size HP_3.out rfl (show 22 + 4≤26 by decide) (by intro u hu;simp [Value.cells] at hu;subst hu;rfl) rfl ?_;intro W4 hp
    have HE_4:=pE hp HE_3
    have HL_4:Hid (LayAt W4 y bs k):=hU (hl.kept hk0 noWork HE_4.out)
    have HP_4:=pA hp
    have HK_4:=pT hp HP_3 HK_3
    have HX_4:=pT hp HP_3 HX_3
    clear hp
    clear HK_3 HP_3 HX_3 HE_3 HL_3)
  |go_values|go_skip|go_guarded|(with_reducible refine wg ?_)|go_step|go_upon)
 refine wp_region_noPanic ?_
 refine go0 (S:=fun W=> (W.cell? ⟨b,0,none⟩=some y.p)∧(W.heap[w.heap.size]? =some (.cells (back p v e).cells 167 (0,0)))) [11] (⟨hcell HK_4.out 0,HP_4.out⟩) fun hS=> ?_
 obtain ⟨W5,hWd⟩:=exW W4.drew
 have HK_5:=dB hWd HK_4
 have HP_5:=dB hWd HP_4
 have HX_5:=dB hWd HX_4
 have HE_5:=dE hWd HE_4
 have HL_5:=dL hWd HL_4
 rw [hWd] at hS ⊢
 clear hWd
 clear HK_4 HP_4 HX_4 HE_4 HL_4
 refine tp 0 ?_;try simp only [acts]
 refine tp 1 ?_;try simp only [acts]
 refine tp 2 ?_;try simp only [acts]
 refine tp 3 ?_;try simp only [acts]
 refine tp 4 ?_;try simp only [acts]
 refine tl 5 ?_;try simp only [acts]
 refine tv 6 (.agg (back p v e).cells) (fun W hSW=> run_val_load rfl rfl (run_load_whole aggProc hSW.2 rfl)) ?_
 (try simp only [acts])
 refine ro 7 fun K hK=> ?_
 refine want rfl ?_
 go_simp
 refine (TPut y.p k.p (back p v e) _ HL_5.out.p (by omega)).mono ?_
 rintro er W6 ⟨v6,rfl,ho,hb⟩
 have HK_6:=nB hb HK_5
 have HP_6:=nB hb HP_5
 have HX_6:=nB hb HX_5
 have HE_6:=nE hb HE_5
 have HL_6:=nL hb HL_5
 clear HK_5 HP_5 HX_5 HE_5 HL_5
 clear hb
 have SP_6:=hU (KR.Own.sl szProc ho)
 dsimp only
 try clear hS
 refine nx hK (⟨hcell HK_6.out 0,HP_6.out⟩) fun hS=> ?_
 clear hK K
 (try simp only [acts])
 refine tp 8 ?_;try simp only [acts]
 refine tp 9 ?_;try simp only [acts]
 refine tp 10 ?_;try simp only [acts]
 refine ro 11 fun K hK=> ?_
 refine want rfl ?_
 refine wp_store1 (v:=v6) (off:=0) (new:=kcells {y with p:=v6} {k with p:=put k.p (back p v e)}) rfl rfl rfl oneSProc HK_6.out SP_6.out.vcells SP_6.out.vone (show 0 + 1≤17 by decide) rfl ?_
 intro W7 hp
 have HL_7:Hid (LayAt W7 {y with p:=v6} bs {k with p:=put k.p (back p v e)}):=hU ((HL_6.out.setP SP_6.out).put HK_6.out noWork hp)
 have HE_7:=pK hp HE_6
 have HK_7:Hid (W7.heap[b]? =some (.cells (kcells {y with p:=v6} {k with p:=put k.p (back p v e)}) 178 (0,0))):=pA hp
 have HP_7:=pT hp HK_6 HP_6
 have HX_7:=pT hp HK_6 HX_6
 have SP_7:=hU (SP_6.out.put HK_6.out hp (by decide))
 clear hp
 clear HK_6 HP_6 HX_6 HE_6 HL_6 SP_6
 refine nt hK ?_
 clear hK K
 try clear hS
 (try simp only [acts])
 refine doneL (by kernel_rfl) (NoPanic.normal ?_) _
 try clear hS
 clear SP_7
 repeat' (first|go_values|go_skip|go_guarded|(with_reducible refine wg ?_)|go_step|go_upon)
 obtain ⟨ta,tc,htr,htc,_⟩:=HL_7.out.tr.shape
 have HTR:=hU htr
 clear htr
 dsimp only at htc HTR
 refine wp_region_noPanic ?_
 refine go0 (S:=fun W=> (W.cell? ⟨b,13,none⟩=some (.slice ta k.trace.length tc))∧(W.cell? ⟨w.heap.size,0,none⟩=some (.int .i64 p.pid))∧(W.cell? ⟨w.heap.size + 1,0,none⟩=some (.int .u32 x.n))∧(W.cell? ⟨b,7,none⟩=some (.int .u64 k.now))) [25] (⟨((hcell HK_7.out 13).trans (congrArg some HTR.out)),hcell HP_7.out 0,hcell HX_7.out 0,hcell HK_7.out 7⟩) fun hS=> ?_
 obtain ⟨W8,hWd⟩:=exW W7.drew
 have HK_8:=dB hWd HK_7
 have HP_8:=dB hWd HP_7
 have HX_8:=dB hWd HX_7
 have HE_8:=dE hWd HE_7
 have HL_8:=dL hWd HL_7
 rw [hWd] at hS ⊢
 clear hWd
 clear HK_7 HP_7 HX_7 HE_7 HL_7
 refine tp 0 ?_;try simp only [acts]
 refine tp 1 ?_;try simp only [acts]
 refine tp 2 ?_;try simp only [acts]
 refine tp 3 ?_;try simp only [acts]
 refine tp 4 ?_;try simp only [acts]
 refine tl 5 ?_;try simp only [acts]
 refine tp 7 ?_;try simp only [acts]
 refine tl 8 ?_;try simp only [acts]
 refine tp 9 ?_;try simp only [acts]
 refine tl 10 ?_;try simp only [acts]
 refine tp 11 ?_;try simp only [acts]
 refine tp 12 ?_;try simp only [acts]
 refine tp 14 ?_;try simp only [acts]
 refine tp 15 ?_;try simp only [acts]
 refine tp 16 ?_;try simp only [acts]
 refine tp 17 ?_;try simp only [acts]
 refine tl 18 ?_;try simp only [acts]
 refine ro 6 fun K hK=> ?_
 refine want rfl ?_
 go_simp
 refine (clipEv _ _ _ _ htc).mono ?_
 rintro er Wx ⟨rfl,rfl⟩
 dsimp only
 try clear hS
 refine nx hK (⟨((hcell HK_8.out 13).trans (congrArg some HTR.out)),hcell HP_8.out 0,hcell HX_8.out 0,hcell HK_8.out 7⟩) fun hS=> ?_
 clear hK K
 (try simp only [acts])
 refine ro 13 fun K hK=> ?_
 refine want rfl ?_
 go_simp
 refine (CValue e v _ he0 he1).mono ?_
 rintro er W9 ⟨rfl,hb⟩
 have HK_9:=nB hb HK_8
 have HP_9:=nB hb HP_8
 have HX_9:=nB hb HX_8
 have HE_9:=nE hb HE_8
 have HL_9:=nL hb HL_8
 clear HK_8 HP_8 HX_8 HE_8 HL_8
 clear hb
 dsimp only
 try clear hS
 refine nx hK (⟨((hcell HK_9.out 13).trans (congrArg some HTR.out)),hcell HP_9.out 0,hcell HX_9.out 0,hcell HK_9.out 7⟩) fun hS=> ?_
 clear hK K
 (try simp only [acts])
 refine tp 19 ?_;try simp only [acts]
 refine ro 20 fun K hK=> ?_
 go_simp
 obtain ⟨W10,hWn,hba,hnw⟩:=nb2 W9 (.cells #[.int .i64 p.pid,.int .u32 x.n,.int .u32 (cval e v),.int .u64 k.now] 121)
 rw [hWn]
 clear hWn
 have HK_10:=nB hba HK_9
 have HP_10:=nB hba HP_9
 have HX_10:=nB hba HX_9
 have HE_10:=nE hba HE_9
 have HL_10:=nL hba HL_9
 clear HK_9 HP_9 HX_9 HE_9 HL_9
 clear hba
 try clear hS
 refine nx hK (⟨((hcell HK_10.out 13).trans (congrArg some HTR.out)),hcell HP_10.out 0,hcell HX_10.out 0,hcell HK_10.out 7⟩) fun hS=> ?_
 clear hK K
 (try simp only [acts])
 obtain ⟨v9,W11,hrun,hown,hb⟩:=append_full (P:=Tryz.prog) (bytes:=24) (t:=53) (ty:=53) szEv (by decide) Tryz.underlying53 (by kernel_rfl) onesEv (w:=W10) (a:=ta) (n:=k.trace.length) (c:=1) (l:=k.trace) (by have h:=HL_10.out.tr;dsimp only at h;rw [HTR.out] at h;exact Sl.clip h) (x:=⟨p.pid,x.n,cval e v,k.now⟩) (xb:=W9.heap.size) hnw (by unfold maxLen;omega) (by omega)
 have HRUN:=hU hrun
 refine ro 21 fun K hK=> ?_
 refine want rfl ?_
 refine wp_append_run _ _ _ _ rfl _ _ rfl rfl _ _ HRUN.out ?_
 have HK_11:=nB hb HK_10
 have HP_11:=nB hb HP_10
 have HX_11:=nB hb HX_10
 have HE_11:=nE hb HE_10
 have HL_11:=nL hb HL_10
 clear HK_10 HP_10 HX_10 HE_10 HL_10
 have ST_11:=hU (KR.Own.sl szEv hown)
 clear hb hown hrun HRUN hnw
 try clear hS
 refine nx hK (⟨((hcell HK_11.out 13).trans (congrArg some HTR.out)),hcell HP_11.out 0,hcell HX_11.out 0,hcell HK_11.out 7⟩) fun hS=> ?_
 clear hK K
 (try simp only [acts])
 refine tp 22 ?_;try simp only [acts]
 refine tp 23 ?_;try simp only [acts]
 refine tp 24 ?_;try simp only [acts]
 refine ro 25 fun K hK=> ?_
 refine want rfl ?_
 refine wp_store1 (v:=v9) (off:=13) (new:=kcells {y with p:=v6,tr:=v9} (answer k p x v e)) rfl rfl rfl oneSEv HK_11.out ST_11.out.vcells ST_11.out.vone (show 13 + 1≤17 by decide) rfl ?_
 intro W12 hp
 have HL_12:Hid (LayAt W12 {y with p:=v6,tr:=v9} bs (answer k p x v e)):=hU ((HL_11.out.setTr ST_11.out).put HK_11.out noWork hp)
 have HE_12:=pK hp HE_11
 have HK_12:Hid (W12.heap[b]? =some (.cells (kcells {y with p:=v6,tr:=v9} (answer k p x v e)) 178 (0,0))):=pA hp
 have HP_12:=pT hp HK_11 HP_11
 have HX_12:=pT hp HK_11 HX_11
 have ST_12:=hU (ST_11.out.put HK_11.out hp (by decide))
 clear hp
 clear HK_11 HP_11 HX_11 HE_11 HL_11 ST_11
 refine nt hK ?_
 clear hK K
 try clear hS
 (try simp only [acts])
 refine doneL (by kernel_rfl) (NoPanic.normal ?_) _
 try clear hS
 clear ST_12
 repeat' (first|go_values|go_skip|go_guarded|(with_reducible refine wg ?_)|go_step|go_upon)
 go_end0
 exact ⟨⟨_,rfl⟩,⟨_,_,HK_12.out,HL_12.out⟩,HE_12.out⟩
theorem WStops (b:Nat) (k:Kern) (p:Proc) (st:Int) (x:Call) (w:World) (hk:WorkAt w b k) (hn:k.p.length≤1000000) (ht:k.t.l.length≤1000000):
 Calls Tryz.prog 165 #[.pointer (some ⟨b,0,none⟩),.agg p.cells,.int .i64 st,.agg x.cells] w (GivesU b (stops k p st x) w):=by
 obtain ⟨y,bs,hk0,hl⟩:=hk
 have hbl:=hlt hk0
 obtain ⟨W0,hW0,HK_0,HP_0,HX_0,HE_0,HL_0,hz0,hzK,hzP,hzX⟩:=st2 p.cells 167 x.cells 165 hk0 hl
 go_enter Tryz.func165,Tryz.ntmps165
 repeat' (first
  |(rw [hW0];clear hW0)
  |go_values|go_skip|go_guarded|(with_reducible refine wg ?_)|go_step|go_upon)
 refine wp_region_noPanic ?_
 refine go0 (S:=fun W=> (W.heap[w.heap.size + 1]? =some (.cells x.cells 165 (0,0)))) [] (HX_0.out) fun hS=> ?_
 obtain ⟨W1,hWd⟩:=exW W0.drew
 have HK_1:=dB hWd HK_0
 have HP_1:=dB hWd HP_0
 have HX_1:=dB hWd HX_0
 have HE_1:=dE hWd HE_0
 have HL_1:=dL hWd HL_0
 rw [hWd] at hS ⊢
 clear hWd
 clear HK_0 HP_0 HX_0 HE_0 HL_0
 refine tp 0 ?_;try simp only [acts]
 refine tv 1 (.agg x.cells) (fun W hSW=> run_val_load rfl rfl (run_load_whole aggCall hSW rfl)) ?_
 (try simp only [acts])
 refine tp 2 ?_;try simp only [acts]
 refine ro 3 fun K hK=> ?_
 refine want rfl ?_
 refine wp_store1 (v:=.int .i64 st) (off:=2) (new:=({p with st:=st}:Proc).cells) rfl rfl rfl oneInt HP_1.out rfl rfl (show 2 + 1≤26 by decide) rfl ?_
 intro W2 hp
 have HE_2:=pE hp HE_1
 have HL_2:Hid (LayAt W2 y bs k):=hU (hl.kept hk0 noWork HE_2.out)
 have HP_2:=pA hp
 have HK_2:=pT hp HP_1 HK_1
 have HX_2:=pT hp HP_1 HX_1
 clear hp
 clear HK_1 HP_1 HX_1 HE_1 HL_1
 try clear hS
 refine nx hK (HX_2.out) fun hS=> ?_
 clear hK K
 (try simp only [acts])
 refine tp 4 ?_;try simp only [acts]
 refine ro 5 fun K hK=> ?_
 refine want rfl ?_
 refine wp_store (v:=.agg x.cells) (off:=22) (new:=({p with st:=st,wn:=x.n,wa:=x.a,wb:=x.b,wc:=x.c}:Proc).cells) rfl rfl rfl aggCall.size HP_2.out rfl (show 22 + 4≤26 by decide) (onesC x) rfl ?_
 intro W3 hp
 have HE_3:=pE hp HE_2
 have HL_3:Hid (LayAt W3 y bs k):=hU (hl.kept hk0 noWork HE_3.out)
 have HP_3:=pA hp
 have HK_3:=pT hp HP_2 HK_2
 have HX_3:=pT hp HP_2 HX_2
 clear hp
 clear HK_2 HP_2 HX_2 HE_2 HL_2
 try clear hS
 refine nx hK (HX_3.out) fun hS=> ?_
 clear hK K
 (try simp only [acts])
 refine doneL (by kernel_rfl) (NoPanic.normal ?_) _
 try clear hS
 repeat' (first|go_values|go_skip|go_guarded|(with_reducible refine wg ?_)|go_step|go_upon)
 obtain ⟨p2,hp2⟩:∃ p2:Proc,({p with st:=st,wn:=x.n,wa:=x.a,wb:=x.b,wc:=x.c}:Proc)=p2:=⟨_,rfl⟩
 have HPID:Hid (p2.pid=p.pid):=hU (by rw [← hp2])
 have HP2:=hU hp2
 rw [hp2] at HP_3
 clear hp2
 refine wp_region_noPanic ?_
 refine go0 (S:=fun W=> (W.cell? ⟨b,0,none⟩=some y.p)∧(W.heap[w.heap.size]? =some (.cells p2.cells 167 (0,0)))∧(W.cell? ⟨w.heap.size,0,none⟩=some (.int .i64 p2.pid))∧(W.cell? ⟨b,1,none⟩=some y.t)∧(W.cell? ⟨b,2,none⟩=some (.int .i64 k.t.left))) [20,24] (⟨hcell HK_3.out 0,HP_3.out,hcell HP_3.out 0,hcell HK_3.out 1,hcell HK_3.out 2⟩) fun hS=> ?_
 obtain ⟨W4,hWd⟩:=exW W3.drew
 have HK_4:=dB hWd HK_3
 have HP_4:=dB hWd HP_3
 have HX_4:=dB hWd HX_3
 have HE_4:=dE hWd HE_3
 have HL_4:=dL hWd HL_3
 rw [hWd] at hS ⊢
 clear hWd
 clear HK_3 HP_3 HX_3 HE_3 HL_3
 refine tp 0 ?_;try simp only [acts]
 refine tp 1 ?_;try simp only [acts]
 refine tp 2 ?_;try simp only [acts]
 refine tp 3 ?_;try simp only [acts]
 refine tp 4 ?_;try simp only [acts]
 refine tp 5 ?_;try simp only [acts]
 refine tl 6 ?_;try simp only [acts]
 refine tv 7 (.agg p2.cells) (fun W hSW=> run_val_load rfl rfl (run_load_whole aggProc hSW.2.1 rfl)) ?_
 (try simp only [acts])
 refine tp 9 ?_;try simp only [acts]
 refine tp 10 ?_;try simp only [acts]
 refine tp 11 ?_;try simp only [acts]
 refine tp 12 ?_;try simp only [acts]
 refine tl 13 ?_;try simp only [acts]
 refine tp 14 ?_;try simp only [acts]
 refine tl 15 ?_;try simp only [acts]
 refine ro 8 fun K hK=> ?_
 refine want rfl ?_
 go_simp
 refine (TPut y.p k.p p2 _ HL_4.out.p (by omega)).mono ?_
 rintro er W5 ⟨v6,rfl,ho,hb⟩
 have HK_5:=nB hb HK_4
 have HP_5:=nB hb HP_4
 have HX_5:=nB hb HX_4
 have HE_5:=nE hb HE_4
 have HL_5:=nL hb HL_4
 clear HK_4 HP_4 HX_4 HE_4 HL_4
 clear hb
 have SP_5:=hU (KR.Own.sl szProc ho)
 dsimp only
 try clear hS
 refine nx hK (⟨hcell HK_5.out 0,HP_5.out,hcell HP_5.out 0,hcell HK_5.out 1,hcell HK_5.out 2⟩) fun hS=> ?_
 clear hK K
 (try simp only [acts])
 refine ro 16 fun K hK=> ?_
 refine want rfl ?_
 go_simp
 refine (TDrop _ k.t p2.pid _ ⟨y.t,rfl,HL_5.out.t⟩ (by omega)).mono ?_
 rintro er W6 ⟨v7,rfl,⟨u7,rfl,ht7⟩,hb⟩
 have HK_6:=nB hb HK_5
 have HP_6:=nB hb HP_5
 have HX_6:=nB hb HX_5
 have HE_6:=nE hb HE_5
 have HL_6:=nL hb HL_5
 have SP_6:=hU (SP_5.out.below hb)
 clear HK_5 HP_5 HX_5 HE_5 HL_5 SP_5
 clear hb
 have ST_6:=hU ht7
 dsimp only
 try clear hS
 refine nx hK (⟨hcell HK_6.out 0,HP_6.out,hcell HP_6.out 0,hcell HK_6.out 1,hcell HK_6.out 2⟩) fun hS=> ?_
 clear hK K
 (try simp only [acts])
 refine tp 17 ?_;try simp only [acts]
 refine tp 18 ?_;try simp only [acts]
 refine tp 19 ?_;try simp only [acts]
 refine ro 20 fun K hK=> ?_
 refine want rfl ?_
 refine wp_store1 (v:=v6) (off:=0) (new:=kcells {y with p:=v6} {k with p:=put k.p p2}) rfl rfl rfl oneSProc HK_6.out SP_6.out.vcells SP_6.out.vone (show 0 + 1≤17 by decide) rfl ?_
 intro W7 hp
 have HL_7:Hid (LayAt W7 {y with p:=v6} bs {k with p:=put k.p p2}):=hU ((HL_6.out.setP SP_6.out).put HK_6.out noWork hp)
 have HE_7:=pK hp HE_6
 have HK_7:Hid (W7.heap[b]? =some (.cells (kcells {y with p:=v6} {k with p:=put k.p p2}) 178 (0,0))):=pA hp
 have HP_7:=pT hp HK_6 HP_6
 have HX_7:=pT hp HK_6 HX_6
 have SP_7:=hU (SP_6.out.put HK_6.out hp (by decide))
 have ST_7:=hU (ST_6.out.put HK_6.out hp (by decide))
 clear hp
 clear HK_6 HP_6 HX_6 HE_6 HL_6 SP_6 ST_6
 refine nt hK ?_
 clear hK K
 try clear hS
 (try simp only [acts])
 refine tp 21 ?_;try simp only [acts]
 refine tp 22 ?_;try simp only [acts]
 refine tp 23 ?_;try simp only [acts]
 refine ro 24 fun K hK=> ?_
 refine want rfl ?_
 refine wp_store (v:=.agg #[u7,.int .i64 (tdrop k.t p2.pid).left]) (off:=1) (new:=kcells {y with p:=v6,t:=u7} {k with p:=put k.p p2,t:=tdrop k.t p2.pid}) rfl rfl rfl aggTurn.size HK_7.out rfl (show 1 + 2≤17 by decide) (onesT ST_7.out) rfl ?_
 intro W8 hp
 have HL_8:Hid (LayAt W8 {y with p:=v6,t:=u7} bs {k with p:=put k.p p2,t:=tdrop k.t p2.pid}):=hU ((HL_7.out.setT ST_7.out).put HK_7.out noWork hp)
 have HE_8:=pK hp HE_7
 have HK_8:Hid (W8.heap[b]? =some (.cells (kcells {y with p:=v6,t:=u7} {k with p:=put k.p p2,t:=tdrop k.t p2.pid}) 178 (0,0))):=pA hp
 have HP_8:=pT hp HK_7 HP_7
 have HX_8:=pT hp HK_7 HX_7
 have SP_8:=hU (SP_7.out.put HK_7.out hp (by decide))
 have ST_8:=hU (ST_7.out.put HK_7.out hp (by decide))
 clear hp
 clear HK_7 HP_7 HX_7 HE_7 HL_7 SP_7 ST_7
 refine nt hK ?_
 clear hK K
 try clear hS
 (try simp only [acts])
 refine doneL (by kernel_rfl) (NoPanic.normal ?_) _
 try clear hS
 repeat' (first|go_values|go_skip|go_guarded|(with_reducible refine wg ?_)|go_step|go_upon)
 go_end0
 have hst:stops k p st x={k with p:=put k.p p2,t:=tdrop k.t p2.pid}:=by rw [stops,HPID.out,HP2.out]
 rw [hst]
 exact ⟨⟨_,rfl⟩,⟨_,_,HK_8.out,HL_8.out⟩,HE_8.out⟩
end Kn
end Go.Proofs.YtkepkcjjenidgaaGreatDoor
namespace Go.Proofs.YtkepkcjjenidgaaGreatDoor
open Go.RowKit KR
namespace Kn
def endV (k:Kern) (p:Proc) (n:Int):Array Value:=if isEnd k p n=true then #[.int .i64 (getFd p n.toNat).1,.bool (getFd p n.toNat).2] else #[.int .i64 0,.bool false]
theorem isEnd_no {k:Kern} {p:Proc} {n:Int} (h:4≤n∨(getFd p n.toNat).1<1∨(k.pipes.length:Int)<(getFd p n.toNat).1):isEnd k p n=false:=by
 unfold isEnd
 rcases h with h|h|h <;> simp [h]
theorem isEnd_yes {k:Kern} {p:Proc} {n:Int} (h1:¬ 4≤n) (h2:¬ (getFd p n.toNat).1<1) (h3:¬ (k.pipes.length:Int)<(getFd p n.toNat).1):isEnd k p n=true:=by
 unfold isEnd
 simp [h1,h2,h3]
theorem WEnd (b:Nat) (k:Kern) (p:Proc) (n:Int) (w:World) (hk:WorkAt w b k) (n0:0≤n) (n1:n<4294967296):
 Calls Tryz.prog 231 #[.pointer (some ⟨b,0,none⟩),.agg p.cells,.int .u32 n] w (Gives (.tuple #[.agg (endV k p n),.bool (isEnd k p n)]) w):=by
 obtain ⟨y,bs,hk0,hl⟩:=hk
 have hbl:=hlt hk0
 obtain ⟨pa,pc,hpi,hpc,_⟩:=hl.pi.shape
 obtain ⟨q0,q1⟩:=two_new w w.heap.size (.cells p.cells 167) (.cells #[.int .i64 0,.bool false] 162) rfl
 have hb0:Below w.heap.size w ((w.alloc (.cells p.cells 167)).alloc (.cells #[.int .i64 0,.bool false] 162)):=bel
 have hkk:=(hb0.block b hbl).trans hk0
 obtain ⟨W0,hW0⟩:∃ W0,((w.alloc (.cells p.cells 167)).alloc (.cells #[.int .i64 0,.bool false] 162))=W0:=⟨_,rfl⟩
 rw [hW0] at hb0 q0 q1 hkk
 have kpi:W0.cell? ⟨b,4,none⟩=some (.slice pa k.pipes.length pc):=(show W0.cell? ⟨b,4,none⟩=some y.pi from hcell hkk 4).trans (congrArg some hpi)
 have HP:=hU q0
 have HR:=hU q1
 have HB:=hU hb0
 have hzb:b<W0.heap.size:=hlt hkk
 have hzp:w.heap.size<W0.heap.size:=hlt q0
 have HNO:=hU (@isEnd_no k p n)
 have HYES:=hU (@isEnd_yes k p n)
 clear hkk q0 q1 hb0 hpi
 by_cases h4:4≤n
 · have he:=HNO.out (.inl h4)
   unfold endV
   rw [he]
   have hd:decide (4≤n)=true:=by simpa using h4
   go_enter Tryz.func231,Tryz.ntmps231
   repeat' (first
    |(rw [hW0];clear hW0)
    |(refine wpList_store (t:=162) (v:=.agg #[.int .i64 0,.bool false]) (off:=0) (new:=#[.int .i64 0,.bool false]) rfl rfl rfl rfl aggEnd.size (show _ from HR.out) rfl (by simp) (by intro u hu;simp [Value.cells] at hu;rcases hu with rfl|rfl <;> rfl) rfl ?_;intro W1 hp)
    |go_values|go_skip|go_guarded|(with_reducible refine wg ?_)|go_step|go_upon|go_quiet (fail))
   (try simp only [Exit.inBlock,Exit.then]);refine bodyPost_ret (res_cell_tmp Tryz.results231 aggEnd rfl hp.at_ rfl) rfl ?_
   exact ⟨rfl,Below.put (below_drewN HB.out _) hp (by omega)⟩
 have hcase:n=0∨n=1∨n=2∨n=3:=by omega
 rcases hcase with hn|hn|hn|hn
 · subst hn
   have HGF:Hid ((getFd p ((0:Int)).toNat)=(p.d0,p.e0)):=hU rfl
   have hcd:W0.cell? ⟨w.heap.size,14,none⟩=some (.int .i64 p.d0):=hcell HP.out 14
   by_cases h1:p.d0<1
   · have he:=HNO.out (.inr (.inl h1))
     unfold endV
     rw [he]
     have hd1:decide (p.d0<1)=true:=by simpa using h1
     clear HNO HYES
     go_enter Tryz.func231,Tryz.ntmps231
     repeat' (first
      |(rw [hW0];clear hW0)
      |(refine wpList_store (t:=162) (v:=.agg #[.int .i64 0,.bool false]) (off:=0) (new:=#[.int .i64 0,.bool false]) rfl rfl rfl rfl aggEnd.size (show _ from HR.out) rfl (by simp) (by intro u hu;simp [Value.cells] at hu;rcases hu with rfl|rfl <;> rfl) rfl ?_;intro W1 hp)
      |go_values|go_skip|go_guarded|(with_reducible refine wg ?_)|go_step|go_upon|go_quiet (fail))
     (try simp only [Exit.inBlock,Exit.then]);refine bodyPost_ret (res_cell_tmp Tryz.results231 aggEnd rfl hp.at_ rfl) rfl ?_
     exact ⟨rfl,Below.put (below_drewN HB.out _) hp (by omega)⟩
   by_cases h2:(k.pipes.length:Int)<p.d0
   · have he:=HNO.out (.inr (.inr h2))
     unfold endV
     rw [he]
     have hd1:decide (p.d0<1)=false:=by simpa using h1
     have hd2:decide ((k.pipes.length:Int)<p.d0)=true:=by simpa using h2
     clear HNO HYES
     go_enter Tryz.func231,Tryz.ntmps231
     repeat' (first
      |(rw [hW0];clear hW0)
      |(refine wpList_store (t:=162) (v:=.agg #[.int .i64 0,.bool false]) (off:=0) (new:=#[.int .i64 0,.bool false]) rfl rfl rfl rfl aggEnd.size (show _ from HR.out) rfl (by simp) (by intro u hu;simp [Value.cells] at hu;rcases hu with rfl|rfl <;> rfl) rfl ?_;intro W1 hp)
      |go_values|go_skip|go_guarded|(with_reducible refine wg ?_)|go_step|go_upon|go_quiet (fail))
     (try simp only [Exit.inBlock,Exit.then]);refine bodyPost_ret (res_cell_tmp Tryz.results231 aggEnd rfl hp.at_ rfl) rfl ?_
     exact ⟨rfl,Below.put (below_drewN HB.out _) hp (by omega)⟩
   have he:=HYES.out (by decide) h1 h2
   have hv:endV k p 0=#[.int .i64 p.d0,.bool p.e0]:=by unfold endV;rw [if_pos he];rfl
   rw [hv,he]
   have hd1:decide (p.d0<1)=false:=by simpa using h1
   have hd2:decide ((k.pipes.length:Int)<p.d0)=false:=by simpa using h2
   clear HNO HYES
   go_enter Tryz.func231,Tryz.ntmps231
   repeat' (first
    |(rw [hW0];clear hW0)
    |(refine wpList_load (t:=162) (v:=.agg #[.int .i64 p.d0,.bool p.e0]) rfl rfl rfl (run_load_part aggEnd (show _ from HP.out) (o:=14) rfl rfl) ?_)
    |(refine wpList_store (t:=162) (v:=.agg #[.int .i64 p.d0,.bool p.e0]) (off:=0) (new:=#[.int .i64 p.d0,.bool p.e0]) rfl rfl rfl rfl aggEnd.size (show _ from HR.out) rfl (by simp) (by intro u hu;simp [Value.cells] at hu;rcases hu with rfl|rfl <;> rfl) rfl ?_;intro W1 hp)
    |go_values|go_skip|go_guarded|(with_reducible refine wg ?_)|go_step|go_upon|go_quiet (fail))
   (try simp only [Exit.inBlock,Exit.then]);refine bodyPost_ret (res_cell_tmp Tryz.results231 aggEnd rfl hp.at_ rfl) rfl ?_
   exact ⟨rfl,Below.put (below_drewN HB.out _) hp (by omega)⟩
 · subst hn
   have HGF:Hid ((getFd p ((1:Int)).toNat)=(p.d1,p.e1)):=hU rfl
   have hcd:W0.cell? ⟨w.heap.size,16,none⟩=some (.int .i64 p.d1):=hcell HP.out 16
   by_cases h1:p.d1<1
   · have he:=HNO.out (.inr (.inl h1))
     unfold endV
     rw [he]
     have hd1:decide (p.d1<1)=true:=by simpa using h1
     clear HNO HYES
     go_enter Tryz.func231,Tryz.ntmps231
     repeat' (first
      |(rw [hW0];clear hW0)
      |(refine wpList_store (t:=162) (v:=.agg #[.int .i64 0,.bool false]) (off:=0) (new:=#[.int .i64 0,.bool false]) rfl rfl rfl rfl aggEnd.size (show _ from HR.out) rfl (by simp) (by intro u hu;simp [Value.cells] at hu;rcases hu with rfl|rfl <;> rfl) rfl ?_;intro W1 hp)
      |go_values|go_skip|go_guarded|(with_reducible refine wg ?_)|go_step|go_upon|go_quiet (fail))
     (try simp only [Exit.inBlock,Exit.then]);refine bodyPost_ret (res_cell_tmp Tryz.results231 aggEnd rfl hp.at_ rfl) rfl ?_
     exact ⟨rfl,Below.put (below_drewN HB.out _) hp (by omega)⟩
   by_cases h2:(k.pipes.length:Int)<p.d1
   · have he:=HNO.out (.inr (.inr h2))
     unfold endV
     rw [he]
     have hd1:decide (p.d1<1)=false:=by simpa using h1
     have hd2:decide ((k.pipes.length:Int)<p.d1)=true:=by simpa using h2
     clear HNO HYES
     go_enter Tryz.func231,Tryz.ntmps231
     repeat' (first
      |(rw [hW0];clear hW0)
      |(refine wpList_store (t:=162) (v:=.agg #[.int .i64 0,.bool false]) (off:=0) (new:=#[.int .i64 0,.bool false]) rfl rfl rfl rfl aggEnd.size (show _ from HR.out) rfl (by simp) (by intro u hu;simp [Value.cells] at hu;rcases hu with rfl|rfl <;> rfl) rfl ?_;intro W1 hp)
      |go_values|go_skip|go_guarded|(with_reducible refine wg ?_)|go_step|go_upon|go_quiet (fail))
     (try simp only [Exit.inBlock,Exit.then]);refine bodyPost_ret (res_cell_tmp Tryz.results231 aggEnd rfl hp.at_ rfl) rfl ?_
     exact ⟨rfl,Below.put (below_drewN HB.out _) hp (by omega)⟩
   have he:=HYES.out (by decide) h1 h2
   have hv:endV k p 1=#[.int .i64 p.d1,.bool p.e1]:=by unfold endV;rw [if_pos he];rfl
   rw [hv,he]
   have hd1:decide (p.d1<1)=false:=by simpa using h1
   have hd2:decide ((k.pipes.length:Int)<p.d1)=false:=by simpa using h2
   clear HNO HYES
   go_enter Tryz.func231,Tryz.ntmps231
   repeat' (first
    |(rw [hW0];clear hW0)
    |(refine wpList_load (t:=162) (v:=.agg #[.int .i64 p.d1,.bool p.e1]) rfl rfl rfl (run_load_part aggEnd (show _ from HP.out) (o:=16) rfl rfl) ?_)
    |(refine wpList_store (t:=162) (v:=.agg #[.int .i64 p.d1,.bool p.e1]) (off:=0) (new:=#[.int .i64 p.d1,.bool p.e1]) rfl rfl rfl rfl aggEnd.size (show _ from HR.out) rfl (by simp) (by intro u hu;simp [Value.cells] at hu;rcases hu with rfl|rfl <;> rfl) rfl ?_;intro W1 hp)
    |go_values|go_skip|go_guarded|(with_reducible refine wg ?_)|go_step|go_upon|go_quiet (fail))
   (try simp only [Exit.inBlock,Exit.then]);refine bodyPost_ret (res_cell_tmp Tryz.results231 aggEnd rfl hp.at_ rfl) rfl ?_
   exact ⟨rfl,Below.put (below_drewN HB.out _) hp (by omega)⟩
 · subst hn
   have HGF:Hid ((getFd p ((2:Int)).toNat)=(p.d2,p.e2)):=hU rfl
   have hcd:W0.cell? ⟨w.heap.size,18,none⟩=some (.int .i64 p.d2):=hcell HP.out 18
   by_cases h1:p.d2<1
   · have he:=HNO.out (.inr (.inl h1))
     unfold endV
     rw [he]
     have hd1:decide (p.d2<1)=true:=by simpa using h1
     clear HNO HYES
     go_enter Tryz.func231,Tryz.ntmps231
     repeat' (first
      |(rw [hW0];clear hW0)
      |(refine wpList_store (t:=162) (v:=.agg #[.int .i64 0,.bool false]) (off:=0) (new:=#[.int .i64 0,.bool false]) rfl rfl rfl rfl aggEnd.size (show _ from HR.out) rfl (by simp) (by intro u hu;simp [Value.cells] at hu;rcases hu with rfl|rfl <;> rfl) rfl ?_;intro W1 hp)
      |go_values|go_skip|go_guarded|(with_reducible refine wg ?_)|go_step|go_upon|go_quiet (fail))
     (try simp only [Exit.inBlock,Exit.then]);refine bodyPost_ret (res_cell_tmp Tryz.results231 aggEnd rfl hp.at_ rfl) rfl ?_
     exact ⟨rfl,Below.put (below_drewN HB.out _) hp (by omega)⟩
   by_cases h2:(k.pipes.length:Int)<p.d2
   · have he:=HNO.out (.inr (.inr h2))
     unfold endV
     rw [he]
     have hd1:decide (p.d2<1)=false:=by simpa using h1
     have hd2:decide ((k.pipes.length:Int)<p.d2)=true:=by simpa using h2
     clear HNO HYES
     go_enter Tryz.func231,Tryz.ntmps231
     repeat' (first
      |(rw [hW0];clear hW0)
      |(refine wpList_store (t:=162) (v:=.agg #[.int .i64 0,.bool false]) (off:=0) (new:=#[.int .i64 0,.bool false]) rfl rfl rfl rfl aggEnd.size (show _ from HR.out) rfl (by simp) (by intro u hu;simp [Value.cells] at hu;rcases hu with rfl|rfl <;> rfl) rfl ?_;intro W1 hp)
      |go_values|go_skip|go_guarded|(with_reducible refine wg ?_)|go_step|go_upon|go_quiet (fail))
     (try simp only [Exit.inBlock,Exit.then]);refine bodyPost_ret (res_cell_tmp Tryz.results231 aggEnd rfl hp.at_ rfl) rfl ?_
     exact ⟨rfl,Below.put (below_drewN HB.out _) hp (by omega)⟩
   have he:=HYES.out (by decide) h1 h2
   have hv:endV k p 2=#[.int .i64 p.d2,.bool p.e2]:=by unfold endV;rw [if_pos he];rfl
   rw [hv,he]
   have hd1:decide (p.d2<1)=false:=by simpa using h1
   have hd2:decide ((k.pipes.length:Int)<p.d2)=false:=by simpa using h2
   clear HNO HYES
   go_enter Tryz.func231,Tryz.ntmps231
   repeat' (first
    |(rw [hW0];clear hW0)
    |(refine wpList_load (t:=162) (v:=.agg #[.int .i64 p.d2,.bool p.e2]) rfl rfl rfl (run_load_part aggEnd (show _ from HP.out) (o:=18) rfl rfl) ?_)
    |(refine wpList_store (t:=162) (v:=.agg #[.int .i64 p.d2,.bool p.e2]) (off:=0) (new:=#[.int .i64 p.d2,.bool p.e2]) rfl rfl rfl rfl aggEnd.size (show _ from HR.out) rfl (by simp) (by intro u hu;simp [Value.cells] at hu;rcases hu with rfl|rfl <;> rfl) rfl ?_;intro W1 hp)
    |go_values|go_skip|go_guarded|(with_reducible refine wg ?_)|go_step|go_upon|go_quiet (fail))
   (try simp only [Exit.inBlock,Exit.then]);refine bodyPost_ret (res_cell_tmp Tryz.results231 aggEnd rfl hp.at_ rfl) rfl ?_
   exact ⟨rfl,Below.put (below_drewN HB.out _) hp (by omega)⟩
 · subst hn
   have HGF:Hid ((getFd p ((3:Int)).toNat)=(p.d3,p.e3)):=hU rfl
   have hcd:W0.cell? ⟨w.heap.size,20,none⟩=some (.int .i64 p.d3):=hcell HP.out 20
   by_cases h1:p.d3<1
   · have he:=HNO.out (.inr (.inl h1))
     unfold endV
     rw [he]
     have hd1:decide (p.d3<1)=true:=by simpa using h1
     clear HNO HYES
     go_enter Tryz.func231,Tryz.ntmps231
     repeat' (first
      |(rw [hW0];clear hW0)
      |(refine wpList_store (t:=162) (v:=.agg #[.int .i64 0,.bool false]) (off:=0) (new:=#[.int .i64 0,.bool false]) rfl rfl rfl rfl aggEnd.size (show _ from HR.out) rfl (by simp) (by intro u hu;simp [Value.cells] at hu;rcases hu with rfl|rfl <;> rfl) rfl ?_;intro W1 hp)
      |go_values|go_skip|go_guarded|(with_reducible refine wg ?_)|go_step|go_upon|go_quiet (fail))
     (try simp only [Exit.inBlock,Exit.then]);refine bodyPost_ret (res_cell_tmp Tryz.results231 aggEnd rfl hp.at_ rfl) rfl ?_
     exact ⟨rfl,Below.put (below_drewN HB.out _) hp (by omega)⟩
   by_cases h2:(k.pipes.length:Int)<p.d3
   · have he:=HNO.out (.inr (.inr h2))
     unfold endV
     rw [he]
     have hd1:decide (p.d3<1)=false:=by simpa using h1
     have hd2:decide ((k.pipes.length:Int)<p.d3)=true:=by simpa using h2
     clear HNO HYES
     go_enter Tryz.func231,Tryz.ntmps231
     repeat' (first
      |(rw [hW0];clear hW0)
      |(refine wpList_store (t:=162) (v:=.agg #[.int .i64 0,.bool false]) (off:=0) (new:=#[.int .i64 0,.bool false]) rfl rfl rfl rfl aggEnd.size (show _ from HR.out) rfl (by simp) (by intro u hu;simp [Value.cells] at hu;rcases hu with rfl|rfl <;> rfl) rfl ?_;intro W1 hp)
      |go_values|go_skip|go_guarded|(with_reducible refine wg ?_)|go_step|go_upon|go_quiet (fail))
     (try simp only [Exit.inBlock,Exit.then]);refine bodyPost_ret (res_cell_tmp Tryz.results231 aggEnd rfl hp.at_ rfl) rfl ?_
     exact ⟨rfl,Below.put (below_drewN HB.out _) hp (by omega)⟩
   have he:=HYES.out (by decide) h1 h2
   have hv:endV k p 3=#[.int .i64 p.d3,.bool p.e3]:=by unfold endV;rw [if_pos he];rfl
   rw [hv,he]
   have hd1:decide (p.d3<1)=false:=by simpa using h1
   have hd2:decide ((k.pipes.length:Int)<p.d3)=false:=by simpa using h2
   clear HNO HYES
   go_enter Tryz.func231,Tryz.ntmps231
   repeat' (first
    |(rw [hW0];clear hW0)
    |(refine wpList_load (t:=162) (v:=.agg #[.int .i64 p.d3,.bool p.e3]) rfl rfl rfl (run_load_part aggEnd (show _ from HP.out) (o:=20) rfl rfl) ?_)
    |(refine wpList_store (t:=162) (v:=.agg #[.int .i64 p.d3,.bool p.e3]) (off:=0) (new:=#[.int .i64 p.d3,.bool p.e3]) rfl rfl rfl rfl aggEnd.size (show _ from HR.out) rfl (by simp) (by intro u hu;simp [Value.cells] at hu;rcases hu with rfl|rfl <;> rfl) rfl ?_;intro W1 hp)
    |go_values|go_skip|go_guarded|(with_reducible refine wg ?_)|go_step|go_upon|go_quiet (fail))
   (try simp only [Exit.inBlock,Exit.then]);refine bodyPost_ret (res_cell_tmp Tryz.results231 aggEnd rfl hp.at_ rfl) rfl ?_
   exact ⟨rfl,Below.put (below_drewN HB.out _) hp (by omega)⟩
end Kn
end Go.Proofs.YtkepkcjjenidgaaGreatDoor
