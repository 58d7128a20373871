/- work.goes: an instruction of the process whose turn it is. Conditions: the rows are right, and small; the table of the instructions' parts lies there. -/
import Derived.Test.YtkepkcjjenidgaaGreatDoorGAsks
import Derived.Test.YtkepkcjjenidgaaGreatDoorKFitB
import Derived.Test.YtkepkcjjenidgaaGreatDoorGCpuB
set_option linter.unusedVariables false
set_option maxRecDepth 100000
set_option maxHeartbeats 8000000
set_option linter.unusedSimpArgs false
namespace Go.Proofs.YtkepkcjjenidgaaGreatDoor
open Go.RowKit KR RegT3
namespace Kn
theorem cpuV_eq:∀ (rs:List Int) (pc:Int),rs.length=8→Cp.cpuV rs pc=.agg (cpuCells (rs.getD 0 0) (rs.getD 1 0) (rs.getD 2 0) (rs.getD 3 0) (rs.getD 4 0) (rs.getD 5 0) (rs.getD 6 0) (rs.getD 7 0) pc)
 |[_,_,_,_,_,_,_,_],_,_=> rfl
def scpu (s:Cp.St):Array Value:=cpuCells (s.rs.getD 0 0) (s.rs.getD 1 0) (s.rs.getD 2 0) (s.rs.getD 3 0) (s.rs.getD 4 0) (s.rs.getD 5 0) (s.rs.getD 6 0) (s.rs.getD 7 0) s.pc
theorem onesCpu (a b c d e f g i j:Int):∀ u ∈ (Value.agg (cpuCells a b c d e f g i j)).cells.toList,u.oneCell'=true:=by
 intro u hu
 simp [Value.cells,cpuCells] at hu
 rcases hu with rfl|rfl|rfl|rfl|rfl|rfl|rfl|rfl|rfl <;> rfl
theorem CStep {p:Proc} (h:PWord p) (hm:p.mem.size=64) (W:World) (hT:Tab W):Calls Tryz.prog 128 #[.agg (cpuCells p.r0 p.r1 p.r2 p.r3 p.r4 p.r5 p.r6 p.r7 p.pc),.string p.mem] W (Gives (.tuple #[.agg (scpu (stepped p)),.string (stepped p).m,.int .i64 (stepped p).t]) W):=by
 have hk:Go.Proofs.YtkepkcjjenidgaaGreatDoor.Kept [p.r0,p.r1,p.r2,p.r3,p.r4,p.r5,p.r6,p.r7] p.pc p.mem (stepped p):=step_kept h.rs h.pc.1 h.pc.2 p.mem
 have this:Calls Tryz.prog 128 #[Cp.cpuV [p.r0,p.r1,p.r2,p.r3,p.r4,p.r5,p.r6,p.r7] p.pc,.string p.mem] W (Gives (.tuple #[Cp.cpuV (stepped p).rs (stepped p).pc,.string (stepped p).m,.int .i64 (stepped p).t]) W):=Step_any [p.r0,p.r1,p.r2,p.r3,p.r4,p.r5,p.r6,p.r7] p.pc p.mem W h.rs h.pc.1 h.pc.2 (by omega) hT
 rw [cpuV_eq _ _ rfl,cpuV_eq (stepped p).rs (stepped p).pc hk.words.1] at this
 exact this
theorem Tab.kept {w W:World} (h:Tab w) {b:Nat} {k:Kern} (hk:WorkAt w b k) (hke:KR.Kept b w W):Tab W:=by
 obtain ⟨y,bs,hb,hl⟩:=hk
 have hne:0 ≠ b:=fun he=> by
  have h0:=h 0 (by decide)
  have e:w.cell? ⟨0,0,none⟩=w.cell? ⟨b,0,none⟩:=congrArg (fun z=> w.cell? ⟨z,0,none⟩) he
  rw [e,hcell hb 0] at h0
  obtain ⟨a,c,hp,_⟩:=hl.p.shape
  have:(kcells y k)[0]? =some y.p:=rfl
  rw [this,hp] at h0
  cases h0
 intro j hj
 have e:=hke.block 0 h.lt hne
 have:=h j hj
 unfold World.cell? at this ⊢
 rw [e]
 exact this
theorem WGoes0 (b:Nat) (k:Kern) (w:World) (hk:WorkAt w b k) (hT:Tab w) (k0:Kern) (a:Nat) (hbd:Bd k0) (hi:Inv [] k) (hto:Told a k0 k) (ha:a≤100) (hwt:k.want=0) (ht:k.t.l=[]):
 Calls Tryz.prog 94 #[.pointer (some ⟨b,0,none⟩)] w (GivesU b (k) w):=by
 have hf:=hbd.fit hi hto (by omega)
 have hTW:=hU (fun W (h:KR.Kept b w W)=> Tab.kept hT hk h)
 obtain ⟨y,bs,hk0,hl⟩:=hk
 have hbl:=hlt hk0
 have HK_0:Hid (w.heap[b]? =some (.cells (kcells y k) 178 (0,0))):=hU hk0
 have HE_0:Hid (KR.Kept b w w):=hU (KR.Kept.refl b w)
 have HL_0:=hU hl
 have hz0:=Nat.le_refl w.heap.size
 have hzK:=hlt hk0
 clear hT
 have kT1:w.cell? ⟨b,1,none⟩=some y.t:=hcell HK_0.out 1
 have kT2:w.cell? ⟨b,2,none⟩=some (.int .i64 k.t.left):=hcell HK_0.out 2
 have HFT:=hU hf
 clear hf
 go_enter Tryz.func94,Tryz.ntmps94
 repeat' (first
  |go_values|go_skip|go_guarded|(with_reducible refine wg ?_)|go_step|go_upon)
 refine (First _ k.t _ ⟨y.t,rfl,HL_0.out.t⟩).mono ?_
 rintro er W1 ⟨rfl,hb⟩
 have HK_1:=nB hb HK_0
 have HE_1:=nE hb HE_0
 have HL_1:=nL hb HL_0
 clear HK_0 HE_0 HL_0
 clear hb kT1 kT2
 dsimp only
 rw [ht]
 dsimp only [List.head?_nil,Option.getD_none,Option.isSome_none]
 repeat' (first|go_values|go_skip|go_guarded|(with_reducible refine wg ?_)|go_step|go_upon)
 go_end0
 exact ⟨⟨_,rfl⟩,⟨_,_,HK_1.out,HL_1.out⟩,HE_1.out⟩
theorem WGoesa (b:Nat) (k:Kern) (w:World) (hk:WorkAt w b k) (hT:Tab w) (k0:Kern) (a:Nat) (hbd:Bd k0) (hi:Inv [] k) (hto:Told a k0 k) (ha:a≤100) (hwt:k.want=0) (pid:Int) (r:List Int) (ht:k.t.l=pid::r) (p:Proc) (hp:p ∈ k.p) (hpid:p.pid=pid) (h1:p.st=1) (h0:(stepped p).t=0):
 Calls Tryz.prog 94 #[.pointer (some ⟨b,0,none⟩)] w (GivesU b ({{k with p:=put k.p (p.with_ (stepped p))} with t:=tspend k.t}) w):=by
 have HWT:=hU hwt
 clear hwt
 have hpw:=hi.tab.wd p hp
 have hmem:=hi.tab.mem p hp
 have HCS:=hU (fun W h=> CStep hpw hmem W h)
 have HFD:Hid (find k.p pid=some p):=hU (find_st hi.tab.so hp hpid)
 have hf:=hbd.fit hi hto (by omega)
 have hTW:=hU (fun W (h:KR.Kept b w W)=> Tab.kept hT hk h)
 obtain ⟨y,bs,hk0,hl⟩:=hk
 have hbl:=hlt hk0
 have HK_0:Hid (w.heap[b]? =some (.cells (kcells y k) 178 (0,0))):=hU hk0
 have HE_0:Hid (KR.Kept b w w):=hU (KR.Kept.refl b w)
 have HL_0:=hU hl
 have hz0:=Nat.le_refl w.heap.size
 have hzK:=hlt hk0
 clear hT
 have kT1:w.cell? ⟨b,1,none⟩=some y.t:=hcell HK_0.out 1
 have kT2:w.cell? ⟨b,2,none⟩=some (.int .i64 k.t.left):=hcell HK_0.out 2
 have HFT:=hU hf
 clear hf
 go_enter Tryz.func94,Tryz.ntmps94
 repeat' (first
  |go_values|go_skip|go_guarded|(with_reducible refine wg ?_)|go_step|go_upon)
 refine (First _ k.t _ ⟨y.t,rfl,HL_0.out.t⟩).mono ?_
 rintro er W1 ⟨rfl,hb⟩
 have HK_1:=nB hb HK_0
 have HE_1:=nE hb HE_0
 have HL_1:=nL hb HL_0
 clear HK_0 HE_0 HL_0
 clear hb kT1 kT2
 dsimp only
 have hhd:k.t.l.head?.getD 0=pid:=by rw [ht];rfl
 have hsm:k.t.l.head?.isSome=true:=by rw [ht];rfl
 rw [hhd,hsm]
 clear hhd hsm
 have kP:W1.cell? ⟨b,0,none⟩=some y.p:=hcell HK_1.out 0
 repeat' (first
  |go_values|go_skip|go_guarded|(with_reducible refine wg ?_)|go_step|go_upon)
 refine (TFind y.p k.p pid _ HL_1.out.p).mono ?_
 rw [HFD.out]
 dsimp only [Option.getD_some,Option.isSome_some]
 rintro er W2 ⟨rfl,hb⟩
 have HK_2:=nB hb HK_1
 have HE_2:=nE hb HE_1
 have HL_2:=nL hb HL_1
 clear HK_1 HE_1 HL_1
 clear hb kP
 dsimp only
 obtain ⟨abP,hab,hab1P⟩:=nb0 HE_2
 have habKP:=nlt HK_2 hab
 have hoffP:=HL_2.out.p.offNew (Nat.le_of_eq hab)
 obtain ⟨W3,hWn,hba,HP_3⟩:=nb1 (.cells #[.int .i64 0,.int .i64 0,.int .i64 0,.int .u32 0,.int .u32 0,.int .u32 0,.int .u32 0,.int .u32 0,.int .u32 0,.int .u32 0,.int .u32 0,.int .u32 0,.string ⟨#[]⟩,.int .i64 0,.int .i64 0,.bool false,.int .i64 0,.bool false,.int .i64 0,.bool false,.int .i64 0,.bool false,.int .u32 0,.int .u32 0,.int .u32 0,.int .u32 0] 167) hab
 have HK_3:=nB hba HK_2
 have HE_3:=nE hba HE_2
 have HL_3:=nL hba HL_2
 clear HK_2 HE_2 HL_2
 clear hba
 repeat' (first
  |(rw [hWn,hab];clear hWn hab)
  |(refine wpList_store (t:=167) (v:=.agg p.cells) (off:=0) (new:=p.cells) rfl rfl rfl rfl aggProc.size HP_3.out rfl (show 0 + 26≤26 by decide) (onesProc p) rfl ?_;intro W4 hp
    have HE_4:=pE hp HE_3
    have HL_4:Hid (LayAt W4 y bs k):=hU (HL_3.out.putProc (HL_3.out.p.putOff hoffP hp) HP_3.out hp)
    have HP_4:=pA hp
    have HK_4:=pT hp HP_3 HK_3
    clear hp
    clear HK_3 HP_3 HE_3 HL_3
    have kM:W4.cell? ⟨abP,12,none⟩=some (.string p.mem):=hcell HP_4.out 12)
  |(refine wpList_load (t:=160) (v:=.agg (cpuCells p.r0 p.r1 p.r2 p.r3 p.r4 p.r5 p.r6 p.r7 p.pc)) rfl rfl rfl (run_load_part aggCpu HP_4.out rfl rfl) ?_)
  |go_values|go_skip|go_guarded|(with_reducible refine wg ?_)|go_step|go_upon)
 try clear hWn hab
 refine (HCS.out _ (hTW.out _ HE_4.out)).mono ?_
 rintro er W5 ⟨rfl,hb⟩
 have HK_5:=nB hb HK_4
 have HP_5:=nB hb HP_4
 have HE_5:=nE hb HE_4
 have HL_5:=nL hb HL_4
 clear HK_4 HP_4 HE_4 HL_4
 clear hb kM HCS
 dsimp only
 generalize hs:stepped p=s at h0 ⊢
 rw [h0]
 obtain ⟨abC,hab,hab1C⟩:=nb0 HE_5
 have habKC:=nlt HK_5 hab
 have habPC:=nlt HP_5 hab
 obtain ⟨W6,hWn,hba,HC_6⟩:=nb1 (.cells #[.int .u32 0,.int .u32 0,.int .u32 0,.int .u32 0,.int .u32 0,.int .u32 0,.int .u32 0,.int .u32 0,.int .u32 0] 160) hab
 have HK_6:=nB hba HK_5
 have HP_6:=nB hba HP_5
 have HE_6:=nE hba HE_5
 have HL_6:=nL hba HL_5
 clear HK_5 HP_5 HE_5 HL_5
 clear hba
 repeat' (first
  |(rw [hWn,hab];clear hWn hab)
  |(refine wpList_store (t:=160) (v:=.agg (scpu s)) (off:=0) (new:=(scpu s)) rfl rfl rfl rfl aggCpu.size HC_6.out rfl (show 0 + 9≤9 by decide) (onesCpu _ _ _ _ _ _ _ _ _) rfl ?_;intro W7 hp
    have HE_7:=pE hp HE_6
    have HL_7:Hid (LayAt W7 y bs k):=hU (hl.kept hk0 noWork HE_7.out)
    have HC_7:=pA hp
    have HK_7:=pT hp HC_6 HK_6
    have HP_7:=pT hp HC_6 HP_6
    clear hp
    clear HK_6 HP_6 HC_6 HE_6 HL_6)
  |(refine wpList_load (t:=160) (v:=.agg (scpu s)) rfl rfl rfl (run_load_whole aggCpu HC_7.out rfl) ?_)
  |(refine wpList_store (t:=160) (v:=.agg (scpu s)) (off:=3) (new:=({p with r0:=s.rs.getD 0 0,r1:=s.rs.getD 1 0,r2:=s.rs.getD 2 0,r3:=s.rs.getD 3 0,r4:=s.rs.getD 4 0,r5:=s.rs.getD 5 0,r6:=s.rs.getD 6 0,r7:=s.rs.getD 7 0,pc:=s.pc}:Proc).cells) rfl rfl rfl rfl aggCpu.size HP_7.out rfl (show 3 + 9≤26 by decide) (onesCpu _ _ _ _ _ _ _ _ _) rfl ?_;intro W8 hp
    have HE_8:=pE hp HE_7
    have HL_8:Hid (LayAt W8 y bs k):=hU (HL_7.out.putProc (HL_7.out.p.putOff hoffP hp) HP_7.out hp)
    have HP_8:=pA hp
    have HK_8:=pT hp HP_7 HK_7
    have HC_8:=pT hp HP_7 HC_7
    clear hp
    clear HK_7 HP_7 HC_7 HE_7 HL_7)
  |(refine wpList_store1 (t:=9) (v:=.string s.m) (off:=12) (new:=(p.with_ s).cells) rfl rfl rfl rfl oneStr HP_8.out rfl rfl (show 12 + 1≤26 by decide) rfl ?_;intro W9 hp
    have HE_9:=pE hp HE_8
    have HL_9:Hid (LayAt W9 y bs k):=hU (HL_8.out.putProc (HL_8.out.p.putOff hoffP hp) HP_8.out hp)
    have HP_9:=pA hp
    have HK_9:=pT hp HP_8 HK_8
    have HC_9:=pT hp HP_8 HC_8
    clear hp
    clear HK_8 HP_8 HC_8 HE_8 HL_8)
  |go_values|go_skip|go_guarded|(with_reducible refine wg ?_)|go_step|go_upon)
 try clear hWn hab
 refine wp_region_noPanic ?_
 refine go0 (S:=fun W=> (W.cell? ⟨b,0,none⟩=some y.p)∧(W.heap[abP]? =some (.cells (p.with_ s).cells 167 (0,0)))) [11] (⟨hcell HK_9.out 0,HP_9.out⟩) fun hS=> ?_
 obtain ⟨W10,hWd⟩:=exW W9.drew
 have HK_10:=dB hWd HK_9
 have HP_10:=dB hWd HP_9
 have HC_10:=dB hWd HC_9
 have HE_10:=dE hWd HE_9
 have HL_10:=dL hWd HL_9
 rw [hWd] at hS ⊢
 clear hWd
 clear HK_9 HP_9 HC_9 HE_9 HL_9
 refine tp 0 ?_;try simp only [acts]
 refine tp 1 ?_;try simp only [acts]
 refine tp 2 ?_;try simp only [acts]
 refine tp 3 ?_;try simp only [acts]
 refine tp 4 ?_;try simp only [acts]
 refine tl 5 ?_;try simp only [acts]
 refine tv 6 (.agg (p.with_ s).cells) (fun W hSW=> run_val_load rfl rfl (run_load_whole aggProc hSW.2 rfl)) ?_
 (try simp only [acts])
 refine ro 7 fun K hK=> ?_
 refine want rfl ?_
 go_simp
 refine (TPut y.p k.p (p.with_ s) _ HL_10.out.p (by have:=HFT.out.n;omega)).mono ?_
 rintro er W11 ⟨v6,rfl,ho,hb⟩
 have HK_11:=nB hb HK_10
 have HP_11:=nB hb HP_10
 have HC_11:=nB hb HC_10
 have HE_11:=nE hb HE_10
 have HL_11:=nL hb HL_10
 clear HK_10 HP_10 HC_10 HE_10 HL_10
 clear hb
 have SP_11:=hU (KR.Own.sl szProc ho)
 dsimp only
 try clear hS
 refine nx hK (⟨hcell HK_11.out 0,HP_11.out⟩) fun hS=> ?_
 clear hK K
 (try simp only [acts])
 refine tp 8 ?_;try simp only [acts]
 refine tp 9 ?_;try simp only [acts]
 refine tp 10 ?_;try simp only [acts]
 refine ro 11 fun K hK=> ?_
 refine want rfl ?_
 refine wp_store1 (v:=v6) (off:=0) (new:=kcells {y with p:=v6} {k with p:=put k.p (p.with_ s)}) rfl rfl rfl oneSProc HK_11.out SP_11.out.vcells SP_11.out.vone (show 0 + 1≤17 by decide) rfl ?_
 intro W12 hp
 have HL_12:Hid (LayAt W12 {y with p:=v6} bs {k with p:=put k.p (p.with_ s)}):=hU ((HL_11.out.setP SP_11.out).put HK_11.out noWork hp)
 have HE_12:=pK hp HE_11
 have HK_12:Hid (W12.heap[b]? =some (.cells (kcells {y with p:=v6} {k with p:=put k.p (p.with_ s)}) 178 (0,0))):=pA hp
 have HP_12:=pT hp HK_11 HP_11
 have HC_12:=pT hp HK_11 HC_11
 have SP_12:=hU (SP_11.out.put HK_11.out hp (by decide))
 clear hp
 clear HK_11 HP_11 HC_11 HE_11 HL_11 SP_11
 refine nt hK ?_
 clear hK K
 try clear hS
 (try simp only [acts])
 refine doneL (by kernel_rfl) (NoPanic.normal ?_) _
 try clear hS
 clear SP_12
 have kT1:W12.cell? ⟨b,1,none⟩=some {y with p:=v6}.t:=hcell HK_12.out 1
 have kT2:W12.cell? ⟨b,2,none⟩=some (.int .i64 k.t.left):=hcell HK_12.out 2
 repeat' (first
  |go_values|go_skip|go_guarded|(with_reducible refine wg ?_)|go_step|go_upon)
 have e1:k.t.l.length≤8589934592:=Nat.le_trans HFT.out.t (by decide)
 have e3:TurnAt W12 (.agg #[{y with p:=v6}.t,.int .i64 k.t.left]) k.t:=⟨_,rfl,HL_12.out.t⟩
 have e4:=TSpend _ k.t _ e3 e1 HFT.out.tl
 refine e4.mono ?_
 rintro er W13 ⟨v7,rfl,⟨u7,rfl,ht7⟩,hb⟩
 clear e1 e3 e4
 have HK_13:=nB hb HK_12
 have HP_13:=nB hb HP_12
 have HC_13:=nB hb HC_12
 have HE_13:=nE hb HE_12
 have HL_13:=nL hb HL_12
 clear HK_12 HP_12 HC_12 HE_12 HL_12
 clear hb kT1 kT2
 have ST_13:=hU ht7
 clear ht7
 dsimp only
 repeat' (first
  |(refine wpList_store (t:=45) (v:=.agg #[u7,.int .i64 ((tspend k.t)).left]) (off:=1) (new:=kcells {{y with p:=v6} with t:=u7} {{k with p:=put k.p (p.with_ s)} with t:=tspend k.t}) rfl rfl rfl rfl aggTurn.size HK_13.out rfl (show 1 + 2≤17 by decide) (onesT ST_13.out) rfl ?_;intro W14 hp
    have HL_14:Hid (LayAt W14 {{y with p:=v6} with t:=u7} bs {{k with p:=put k.p (p.with_ s)} with t:=tspend k.t}):=hU ((HL_13.out.setT ST_13.out).put HK_13.out noWork hp)
    have HE_14:=pK hp HE_13
    have HK_14:Hid (W14.heap[b]? =some (.cells (kcells {{y with p:=v6} with t:=u7} {{k with p:=put k.p (p.with_ s)} with t:=tspend k.t}) 178 (0,0))):=pA hp
    have HP_14:=pT hp HK_13 HP_13
    have HC_14:=pT hp HK_13 HC_13
    have ST_14:=hU (ST_13.out.put HK_13.out hp (by decide))
    clear hp
    clear HK_13 HP_13 HC_13 HE_13 HL_13 ST_13)
  |go_values|go_skip|go_guarded|(with_reducible refine wg ?_)|go_step|go_upon)
 clear ST_14
 repeat' (first|go_values|go_skip|go_guarded|(with_reducible refine wg ?_)|go_step|go_upon)
 go_end0
 subst hs
 exact ⟨⟨_,rfl⟩,⟨_,_,HK_14.out,HL_14.out⟩,HE_14.out⟩
theorem WGoesb (b:Nat) (k:Kern) (w:World) (hk:WorkAt w b k) (hT:Tab w) (k0:Kern) (a:Nat) (hbd:Bd k0) (hi:Inv [] k) (hto:Told a k0 k) (ha:a≤100) (hwt:k.want=0) (pid:Int) (r:List Int) (ht:k.t.l=pid::r) (p:Proc) (hp:p ∈ k.p) (hpid:p.pid=pid) (h1:p.st=1) (h0:(stepped p).t=3):
 Calls Tryz.prog 94 #[.pointer (some ⟨b,0,none⟩)] w (GivesU b (if asksB {k with p:=put k.p (p.with_ (stepped p))} (p.with_ (stepped p)) (p.with_ (stepped p)).from_=true then {asks {k with p:=put k.p (p.with_ (stepped p))} (p.with_ (stepped p)) (p.with_ (stepped p)).from_ with t:=tspend (asks {k with p:=put k.p (p.with_ (stepped p))} (p.with_ (stepped p)) (p.with_ (stepped p)).from_).t} else asks {k with p:=put k.p (p.with_ (stepped p))} (p.with_ (stepped p)) (p.with_ (stepped p)).from_) w):=by
 have HWT:=hU hwt
 clear hwt
 have hpw:=hi.tab.wd p hp
 have hmem:=hi.tab.mem p hp
 have HCS:=hU (fun W h=> CStep hpw hmem W h)
 have HFD:Hid (find k.p pid=some p):=hU (find_st hi.tab.so hp hpid)
 obtain ⟨hi1,ht1,hfd,hcw⟩:=hi.stepPut hp h1
 have hf:=hbd.fit hi hto (by omega)
 have hTW:=hU (fun W (h:KR.Kept b w W)=> Tab.kept hT hk h)
 obtain ⟨y,bs,hk0,hl⟩:=hk
 have hbl:=hlt hk0
 have HK_0:Hid (w.heap[b]? =some (.cells (kcells y k) 178 (0,0))):=hU hk0
 have HE_0:Hid (KR.Kept b w w):=hU (KR.Kept.refl b w)
 have HL_0:=hU hl
 have hz0:=Nat.le_refl w.heap.size
 have hzK:=hlt hk0
 clear hT
 have kT1:w.cell? ⟨b,1,none⟩=some y.t:=hcell HK_0.out 1
 have kT2:w.cell? ⟨b,2,none⟩=some (.int .i64 k.t.left):=hcell HK_0.out 2
 have HFT:=hU hf
 clear hf
 go_enter Tryz.func94,Tryz.ntmps94
 repeat' (first
  |go_values|go_skip|go_guarded|(with_reducible refine wg ?_)|go_step|go_upon)
 refine (First _ k.t _ ⟨y.t,rfl,HL_0.out.t⟩).mono ?_
 rintro er W1 ⟨rfl,hb⟩
 have HK_1:=nB hb HK_0
 have HE_1:=nE hb HE_0
 have HL_1:=nL hb HL_0
 clear HK_0 HE_0 HL_0
 clear hb kT1 kT2
 dsimp only
 have hhd:k.t.l.head?.getD 0=pid:=by rw [ht];rfl
 have hsm:k.t.l.head?.isSome=true:=by rw [ht];rfl
 rw [hhd,hsm]
 clear hhd hsm
 have kP:W1.cell? ⟨b,0,none⟩=some y.p:=hcell HK_1.out 0
 repeat' (first
  |go_values|go_skip|go_guarded|(with_reducible refine wg ?_)|go_step|go_upon)
 refine (TFind y.p k.p pid _ HL_1.out.p).mono ?_
 rw [HFD.out]
 dsimp only [Option.getD_some,Option.isSome_some]
 rintro er W2 ⟨rfl,hb⟩
 have HK_2:=nB hb HK_1
 have HE_2:=nE hb HE_1
 have HL_2:=nL hb HL_1
 clear HK_1 HE_1 HL_1
 clear hb kP
 dsimp only
 obtain ⟨abP,hab,hab1P⟩:=nb0 HE_2
 have habKP:=nlt HK_2 hab
 have hoffP:=HL_2.out.p.offNew (Nat.le_of_eq hab)
 obtain ⟨W3,hWn,hba,HP_3⟩:=nb1 (.cells #[.int .i64 0,.int .i64 0,.int .i64 0,.int .u32 0,.int .u32 0,.int .u32 0,.int .u32 0,.int .u32 0,.int .u32 0,.int .u32 0,.int .u32 0,.int .u32 0,.string ⟨#[]⟩,.int .i64 0,.int .i64 0,.bool false,.int .i64 0,.bool false,.int .i64 0,.bool false,.int .i64 0,.bool false,.int .u32 0,.int .u32 0,.int .u32 0,.int .u32 0] 167) hab
 have HK_3:=nB hba HK_2
 have HE_3:=nE hba HE_2
 have HL_3:=nL hba HL_2
 clear HK_2 HE_2 HL_2
 clear hba
 repeat' (first
  |(rw [hWn,hab];clear hWn hab)
  |(refine wpList_store (t:=167) (v:=.agg p.cells) (off:=0) (new:=p.cells) rfl rfl rfl rfl aggProc.size HP_3.out rfl (show 0 + 26≤26 by decide) (onesProc p) rfl ?_;intro W4 hp
    have HE_4:=pE hp HE_3
    have HL_4:Hid (LayAt W4 y bs k):=hU (HL_3.out.putProc (HL_3.out.p.putOff hoffP hp) HP_3.out hp)
    have HP_4:=pA hp
    have HK_4:=pT hp HP_3 HK_3
    clear hp
    clear HK_3 HP_3 HE_3 HL_3
    have kM:W4.cell? ⟨abP,12,none⟩=some (.string p.mem):=hcell HP_4.out 12)
  |(refine wpList_load (t:=160) (v:=.agg (cpuCells p.r0 p.r1 p.r2 p.r3 p.r4 p.r5 p.r6 p.r7 p.pc)) rfl rfl rfl (run_load_part aggCpu HP_4.out rfl rfl) ?_)
  |go_values|go_skip|go_guarded|(with_reducible refine wg ?_)|go_step|go_upon)
 try clear hWn hab
 refine (HCS.out _ (hTW.out _ HE_4.out)).mono ?_
 rintro er W5 ⟨rfl,hb⟩
 have HK_5:=nB hb HK_4
 have HP_5:=nB hb HP_4
 have HE_5:=nE hb HE_4
 have HL_5:=nL hb HL_4
 clear HK_4 HP_4 HE_4 HL_4
 clear hb kM HCS
 dsimp only
 generalize hs:stepped p=s at h0 hi1 ht1 hfd hcw ⊢
 rw [h0]
 obtain ⟨abC,hab,hab1C⟩:=nb0 HE_5
 have habKC:=nlt HK_5 hab
 have habPC:=nlt HP_5 hab
 obtain ⟨W6,hWn,hba,HC_6⟩:=nb1 (.cells #[.int .u32 0,.int .u32 0,.int .u32 0,.int .u32 0,.int .u32 0,.int .u32 0,.int .u32 0,.int .u32 0,.int .u32 0] 160) hab
 have HK_6:=nB hba HK_5
 have HP_6:=nB hba HP_5
 have HE_6:=nE hba HE_5
 have HL_6:=nL hba HL_5
 clear HK_5 HP_5 HE_5 HL_5
 clear hba
 repeat' (first
  |(rw [hWn,hab];clear hWn hab)
  |(refine wpList_store (t:=160) (v:=.agg (scpu s)) (off:=0) (new:=(scpu s)) rfl rfl rfl rfl aggCpu.size HC_6.out rfl (show 0 + 9≤9 by decide) (onesCpu _ _ _ _ _ _ _ _ _) rfl ?_;intro W7 hp
    have HE_7:=pE hp HE_6
    have HL_7:Hid (LayAt W7 y bs k):=hU (hl.kept hk0 noWork HE_7.out)
    have HC_7:=pA hp
    have HK_7:=pT hp HC_6 HK_6
    have HP_7:=pT hp HC_6 HP_6
    clear hp
    clear HK_6 HP_6 HC_6 HE_6 HL_6)
  |(refine wpList_load (t:=160) (v:=.agg (scpu s)) rfl rfl rfl (run_load_whole aggCpu HC_7.out rfl) ?_)
  |(refine wpList_store (t:=160) (v:=.agg (scpu s)) (off:=3) (new:=({p with r0:=s.rs.getD 0 0,r1:=s.rs.getD 1 0,r2:=s.rs.getD 2 0,r3:=s.rs.getD 3 0,r4:=s.rs.getD 4 0,r5:=s.rs.getD 5 0,r6:=s.rs.getD 6 0,r7:=s.rs.getD 7 0,pc:=s.pc}:Proc).cells) rfl rfl rfl rfl aggCpu.size HP_7.out rfl (show 3 + 9≤26 by decide) (onesCpu _ _ _ _ _ _ _ _ _) rfl ?_;intro W8 hp
    have HE_8:=pE hp HE_7
    have HL_8:Hid (LayAt W8 y bs k):=hU (HL_7.out.putProc (HL_7.out.p.putOff hoffP hp) HP_7.out hp)
    have HP_8:=pA hp
    have HK_8:=pT hp HP_7 HK_7
    have HC_8:=pT hp HP_7 HC_7
    clear hp
    clear HK_7 HP_7 HC_7 HE_7 HL_7)
  |(refine wpList_store1 (t:=9) (v:=.string s.m) (off:=12) (new:=(p.with_ s).cells) rfl rfl rfl rfl oneStr HP_8.out rfl rfl (show 12 + 1≤26 by decide) rfl ?_;intro W9 hp
    have HE_9:=pE hp HE_8
    have HL_9:Hid (LayAt W9 y bs k):=hU (HL_8.out.putProc (HL_8.out.p.putOff hoffP hp) HP_8.out hp)
    have HP_9:=pA hp
    have HK_9:=pT hp HP_8 HK_8
    have HC_9:=pT hp HP_8 HC_8
    clear hp
    clear HK_8 HP_8 HC_8 HE_8 HL_8)
  |go_values|go_skip|go_guarded|(with_reducible refine wg ?_)|go_step|go_upon)
 try clear hWn hab
 refine wp_region_noPanic ?_
 refine go0 (S:=fun W=> (W.cell? ⟨b,0,none⟩=some y.p)∧(W.heap[abP]? =some (.cells (p.with_ s).cells 167 (0,0)))) [11] (⟨hcell HK_9.out 0,HP_9.out⟩) fun hS=> ?_
 obtain ⟨W10,hWd⟩:=exW W9.drew
 have HK_10:=dB hWd HK_9
 have HP_10:=dB hWd HP_9
 have HC_10:=dB hWd HC_9
 have HE_10:=dE hWd HE_9
 have HL_10:=dL hWd HL_9
 rw [hWd] at hS ⊢
 clear hWd
 clear HK_9 HP_9 HC_9 HE_9 HL_9
 refine tp 0 ?_;try simp only [acts]
 refine tp 1 ?_;try simp only [acts]
 refine tp 2 ?_;try simp only [acts]
 refine tp 3 ?_;try simp only [acts]
 refine tp 4 ?_;try simp only [acts]
 refine tl 5 ?_;try simp only [acts]
 refine tv 6 (.agg (p.with_ s).cells) (fun W hSW=> run_val_load rfl rfl (run_load_whole aggProc hSW.2 rfl)) ?_
 (try simp only [acts])
 refine ro 7 fun K hK=> ?_
 refine want rfl ?_
 go_simp
 refine (TPut y.p k.p (p.with_ s) _ HL_10.out.p (by have:=HFT.out.n;omega)).mono ?_
 rintro er W11 ⟨v6,rfl,ho,hb⟩
 have HK_11:=nB hb HK_10
 have HP_11:=nB hb HP_10
 have HC_11:=nB hb HC_10
 have HE_11:=nE hb HE_10
 have HL_11:=nL hb HL_10
 clear HK_10 HP_10 HC_10 HE_10 HL_10
 clear hb
 have SP_11:=hU (KR.Own.sl szProc ho)
 dsimp only
 try clear hS
 refine nx hK (⟨hcell HK_11.out 0,HP_11.out⟩) fun hS=> ?_
 clear hK K
 (try simp only [acts])
 refine tp 8 ?_;try simp only [acts]
 refine tp 9 ?_;try simp only [acts]
 refine tp 10 ?_;try simp only [acts]
 refine ro 11 fun K hK=> ?_
 refine want rfl ?_
 refine wp_store1 (v:=v6) (off:=0) (new:=kcells {y with p:=v6} {k with p:=put k.p (p.with_ s)}) rfl rfl rfl oneSProc HK_11.out SP_11.out.vcells SP_11.out.vone (show 0 + 1≤17 by decide) rfl ?_
 intro W12 hp
 have HL_12:Hid (LayAt W12 {y with p:=v6} bs {k with p:=put k.p (p.with_ s)}):=hU ((HL_11.out.setP SP_11.out).put HK_11.out noWork hp)
 have HE_12:=pK hp HE_11
 have HK_12:Hid (W12.heap[b]? =some (.cells (kcells {y with p:=v6} {k with p:=put k.p (p.with_ s)}) 178 (0,0))):=pA hp
 have HP_12:=pT hp HK_11 HP_11
 have HC_12:=pT hp HK_11 HC_11
 have SP_12:=hU (SP_11.out.put HK_11.out hp (by decide))
 clear hp
 clear HK_11 HP_11 HC_11 HE_11 HL_11 SP_11
 refine nt hK ?_
 clear hK K
 try clear hS
 (try simp only [acts])
 refine doneL (by kernel_rfl) (NoPanic.normal ?_) _
 try clear hS
 clear SP_12
 repeat' (first
  |go_values|go_skip|go_guarded|(with_reducible refine wg ?_)|go_step|go_upon)
 have HI1:=hU hi1
 have HF1:=hU (hbd.fit hi1 (hto.trans ht1) (by omega))
 have HFD1:=hU hfd
 have HCW:=hU hcw
 clear hi1 ht1 hfd hcw
 refine wp_region_noPanic ?_
 refine go0 (S:=fun W=> (W.heap[abP]? =some (.cells (p.with_ s).cells 167 (0,0)))∧(W.heap[abC]? =some (.cells (scpu s) 160 (0,0)))) [4] (⟨HP_12.out,HC_12.out⟩) fun hS=> ?_
 obtain ⟨W13,hWd⟩:=exW W12.drew
 have HK_13:=dB hWd HK_12
 have HP_13:=dB hWd HP_12
 have HC_13:=dB hWd HC_12
 have HE_13:=dE hWd HE_12
 have HL_13:=dL hWd HL_12
 rw [hWd] at hS ⊢
 clear hWd
 clear HK_12 HP_12 HC_12 HE_12 HL_12
 refine tp 0 ?_;try simp only [acts]
 refine tv 1 (.agg (p.with_ s).cells) (fun W hSW=> run_val_load rfl rfl (run_load_whole aggProc hSW.1 rfl)) ?_
 (try simp only [acts])
 refine tv 2 (.agg (scpu s)) (fun W hSW=> run_val_load rfl rfl (run_load_whole aggCpu hSW.2 rfl)) ?_
 (try simp only [acts])
 refine ro 3 fun K hK=> ?_
 refine want rfl ?_
 go_simp
 refine (CFrom _ _ _ _ _ _ _ _ _ _).mono ?_
 rintro er W14 ⟨rfl,hb⟩
 have HK_14:=nB hb HK_13
 have HP_14:=nB hb HP_13
 have HC_14:=nB hb HC_13
 have HE_14:=nE hb HE_13
 have HL_14:=nL hb HL_13
 clear HK_13 HP_13 HC_13 HE_13 HL_13
 clear hb
 dsimp only
 try clear hS
 refine nx hK (⟨HP_14.out,HC_14.out⟩) fun hS=> ?_
 clear hK K
 (try simp only [acts])
 refine ro 4 fun K hK=> ?_
 refine want rfl ?_
 go_simp
 refine (WAsks b {k with p:=put k.p (p.with_ s)} (p.with_ s) (p.with_ s).from_ _ ⟨_,_,HK_14.out,HL_14.out⟩ HF1.out (cword_fit HCW.out) HFD1.out (by have:=HWT.out;show _≤k.want;omega) (by have:=HWT.out;show k.want≤_;omega)).mono ?_
 rintro er W15 ⟨hret,⟨y15,bs15,hkk,hll⟩,hke⟩
 have HP_15:=mB hke HP_14
 have HC_15:=mB hke HC_14
 have HK_15:=hU hkk
 have HE_15:=mE hke HE_14
 have HL_15:=hU hll
 clear hkk hll hke
 clear HK_14 HP_14 HC_14 HE_14 HL_14
 subst hret
 dsimp only
 refine nt hK ?_
 clear hK K
 try clear hS
 (try simp only [acts])
 refine tp 5 ?_;try simp only [acts]
 refine doneL (by kernel_rfl) (NoPanic.normal ?_) _
 try clear hS
 cases hab:asksB {k with p:=put k.p (p.with_ s)} (p.with_ s) (p.with_ s).from_
 · have HAB:=hU hab
   clear hab
   repeat' (first|go_values|go_skip|go_guarded|(with_reducible refine wg ?_)|go_step|go_upon)
   go_end0
   subst hs
   rw [if_neg (by rw [HAB.out];decide)]
   exact ⟨⟨_,rfl⟩,⟨_,_,HK_15.out,HL_15.out⟩,HE_15.out⟩
 have HAB:=hU hab
 clear hab
 have HA:=hU (HI1.out.asks (p:=(p.with_ s)) (by exact List.mem_of_find?_eq_some HFD1.out) h1 HCW.out).inv
 have hal:=HA.out.tn.len
 have hn6:=HA.out.n6
 have htl:=HA.out.tl
 have kT1:W15.cell? ⟨b,1,none⟩=some y15.t:=hcell HK_15.out 1
 have kT2:W15.cell? ⟨b,2,none⟩=some (.int .i64 (asks {k with p:=put k.p (p.with_ s)} (p.with_ s) (p.with_ s).from_).t.left):=hcell HK_15.out 2
 repeat' (first
  |go_values|go_skip|go_guarded|(with_reducible refine wg ?_)|go_step|go_upon)
 have e1:(asks {k with p:=put k.p (p.with_ s)} (p.with_ s) (p.with_ s).from_).t.l.length≤8589934592:=(by omega)
 have e3:TurnAt W15 (.agg #[y15.t,.int .i64 (asks {k with p:=put k.p (p.with_ s)} (p.with_ s) (p.with_ s).from_).t.left]) (asks {k with p:=put k.p (p.with_ s)} (p.with_ s) (p.with_ s).from_).t:=⟨_,rfl,HL_15.out.t⟩
 have e4:=TSpend _ (asks {k with p:=put k.p (p.with_ s)} (p.with_ s) (p.with_ s).from_).t _ e3 e1 ⟨by omega,by omega⟩
 refine e4.mono ?_
 rintro er W16 ⟨v7,rfl,⟨u7,rfl,ht7⟩,hb⟩
 clear e1 e3 e4
 have HK_16:=nB hb HK_15
 have HP_16:=nB hb HP_15
 have HC_16:=nB hb HC_15
 have HE_16:=nE hb HE_15
 have HL_16:=nL hb HL_15
 clear HK_15 HP_15 HC_15 HE_15 HL_15
 clear hb kT1 kT2
 have ST_16:=hU ht7
 clear ht7
 dsimp only
 repeat' (first
  |(refine wpList_store (t:=45) (v:=.agg #[u7,.int .i64 ((tspend (asks {k with p:=put k.p (p.with_ s)} (p.with_ s) (p.with_ s).from_).t)).left]) (off:=1) (new:=kcells {y15 with t:=u7} {asks {k with p:=put k.p (p.with_ s)} (p.with_ s) (p.with_ s).from_ with t:=tspend (asks {k with p:=put k.p (p.with_ s)} (p.with_ s) (p.with_ s).from_).t}) rfl rfl rfl rfl aggTurn.size HK_16.out rfl (show 1 + 2≤17 by decide) (onesT ST_16.out) rfl ?_;intro W17 hp
    have HL_17:Hid (LayAt W17 {y15 with t:=u7} bs15 {asks {k with p:=put k.p (p.with_ s)} (p.with_ s) (p.with_ s).from_ with t:=tspend (asks {k with p:=put k.p (p.with_ s)} (p.with_ s) (p.with_ s).from_).t}):=hU ((HL_16.out.setT ST_16.out).put HK_16.out noWork hp)
    have HE_17:=pK hp HE_16
    have HK_17:Hid (W17.heap[b]? =some (.cells (kcells {y15 with t:=u7} {asks {k with p:=put k.p (p.with_ s)} (p.with_ s) (p.with_ s).from_ with t:=tspend (asks {k with p:=put k.p (p.with_ s)} (p.with_ s) (p.with_ s).from_).t}) 178 (0,0))):=pA hp
    have HP_17:=pT hp HK_16 HP_16
    have HC_17:=pT hp HK_16 HC_16
    have ST_17:=hU (ST_16.out.put HK_16.out hp (by decide))
    clear hp
    clear HK_16 HP_16 HC_16 HE_16 HL_16 ST_16)
  |go_values|go_skip|go_guarded|(with_reducible refine wg ?_)|go_step|go_upon)
 clear ST_17
 repeat' (first|go_values|go_skip|go_guarded|(with_reducible refine wg ?_)|go_step|go_upon)
 go_end0
 subst hs
 rw [if_pos HAB.out]
 exact ⟨⟨_,rfl⟩,⟨_,_,HK_17.out,HL_17.out⟩,HE_17.out⟩
theorem WGoesc (b:Nat) (k:Kern) (w:World) (hk:WorkAt w b k) (hT:Tab w) (k0:Kern) (a:Nat) (hbd:Bd k0) (hi:Inv [] k) (hto:Told a k0 k) (ha:a≤100) (hwt:k.want=0) (pid:Int) (r:List Int) (ht:k.t.l=pid::r) (p:Proc) (hp:p ∈ k.p) (hpid:p.pid=pid) (h1:p.st=1) (h0:(stepped p).t=1∨(stepped p).t=2):
 Calls Tryz.prog 94 #[.pointer (some ⟨b,0,none⟩)] w (GivesU b (ends k pid (128 + (stepped p).t) (stepped p).t) w):=by
 have HWT:=hU hwt
 clear hwt
 have hpw:=hi.tab.wd p hp
 have hmem:=hi.tab.mem p hp
 have HCS:=hU (fun W h=> CStep hpw hmem W h)
 have HFD:Hid (find k.p pid=some p):=hU (find_st hi.tab.so hp hpid)
 have hf:=hbd.fit hi hto (by omega)
 have hTW:=hU (fun W (h:KR.Kept b w W)=> Tab.kept hT hk h)
 obtain ⟨y,bs,hk0,hl⟩:=hk
 have hbl:=hlt hk0
 have HK_0:Hid (w.heap[b]? =some (.cells (kcells y k) 178 (0,0))):=hU hk0
 have HE_0:Hid (KR.Kept b w w):=hU (KR.Kept.refl b w)
 have HL_0:=hU hl
 have hz0:=Nat.le_refl w.heap.size
 have hzK:=hlt hk0
 clear hT
 have kT1:w.cell? ⟨b,1,none⟩=some y.t:=hcell HK_0.out 1
 have kT2:w.cell? ⟨b,2,none⟩=some (.int .i64 k.t.left):=hcell HK_0.out 2
 have HFT:=hU hf
 clear hf
 go_enter Tryz.func94,Tryz.ntmps94
 repeat' (first
  |go_values|go_skip|go_guarded|(with_reducible refine wg ?_)|go_step|go_upon)
 refine (First _ k.t _ ⟨y.t,rfl,HL_0.out.t⟩).mono ?_
 rintro er W1 ⟨rfl,hb⟩
 have HK_1:=nB hb HK_0
 have HE_1:=nE hb HE_0
 have HL_1:=nL hb HL_0
 clear HK_0 HE_0 HL_0
 clear hb kT1 kT2
 dsimp only
 have hhd:k.t.l.head?.getD 0=pid:=by rw [ht];rfl
 have hsm:k.t.l.head?.isSome=true:=by rw [ht];rfl
 rw [hhd,hsm]
 clear hhd hsm
 have kP:W1.cell? ⟨b,0,none⟩=some y.p:=hcell HK_1.out 0
 repeat' (first
  |go_values|go_skip|go_guarded|(with_reducible refine wg ?_)|go_step|go_upon)
 refine (TFind y.p k.p pid _ HL_1.out.p).mono ?_
 rw [HFD.out]
 dsimp only [Option.getD_some,Option.isSome_some]
 rintro er W2 ⟨rfl,hb⟩
 have HK_2:=nB hb HK_1
 have HE_2:=nE hb HE_1
 have HL_2:=nL hb HL_1
 clear HK_1 HE_1 HL_1
 clear hb kP
 dsimp only
 obtain ⟨abP,hab,hab1P⟩:=nb0 HE_2
 have habKP:=nlt HK_2 hab
 have hoffP:=HL_2.out.p.offNew (Nat.le_of_eq hab)
 obtain ⟨W3,hWn,hba,HP_3⟩:=nb1 (.cells #[.int .i64 0,.int .i64 0,.int .i64 0,.int .u32 0,.int .u32 0,.int .u32 0,.int .u32 0,.int .u32 0,.int .u32 0,.int .u32 0,.int .u32 0,.int .u32 0,.string ⟨#[]⟩,.int .i64 0,.int .i64 0,.bool false,.int .i64 0,.bool false,.int .i64 0,.bool false,.int .i64 0,.bool false,.int .u32 0,.int .u32 0,.int .u32 0,.int .u32 0] 167) hab
 have HK_3:=nB hba HK_2
 have HE_3:=nE hba HE_2
 have HL_3:=nL hba HL_2
 clear HK_2 HE_2 HL_2
 clear hba
 repeat' (first
  |(rw [hWn,hab];clear hWn hab)
  |(refine wpList_store (t:=167) (v:=.agg p.cells) (off:=0) (new:=p.cells) rfl rfl rfl rfl aggProc.size HP_3.out rfl (show 0 + 26≤26 by decide) (onesProc p) rfl ?_;intro W4 hp
    have HE_4:=pE hp HE_3
    have HL_4:Hid (LayAt W4 y bs k):=hU (HL_3.out.putProc (HL_3.out.p.putOff hoffP hp) HP_3.out hp)
    have HP_4:=pA hp
    have HK_4:=pT hp HP_3 HK_3
    clear hp
    clear HK_3 HP_3 HE_3 HL_3
    have kM:W4.cell? ⟨abP,12,none⟩=some (.string p.mem):=hcell HP_4.out 12)
  |(refine wpList_load (t:=160) (v:=.agg (cpuCells p.r0 p.r1 p.r2 p.r3 p.r4 p.r5 p.r6 p.r7 p.pc)) rfl rfl rfl (run_load_part aggCpu HP_4.out rfl rfl) ?_)
  |go_values|go_skip|go_guarded|(with_reducible refine wg ?_)|go_step|go_upon)
 try clear hWn hab
 refine (HCS.out _ (hTW.out _ HE_4.out)).mono ?_
 rintro er W5 ⟨rfl,hb⟩
 have HK_5:=nB hb HK_4
 have HP_5:=nB hb HP_4
 have HE_5:=nE hb HE_4
 have HL_5:=nL hb HL_4
 clear HK_4 HP_4 HE_4 HL_4
 clear hb kM HCS
 dsimp only
 generalize hs:stepped p=s at h0 ⊢
 obtain ⟨tt,htt⟩:∃ tt,s.t=tt:=⟨_,rfl⟩
 rw [htt] at h0 ⊢
 have g0:(tt==0)=false:=by rcases h0 with h|h <;> rw [h] <;> rfl
 have g3:(tt==3)=false:=by rcases h0 with h|h <;> rw [h] <;> rfl
 have gw:IntKind.i64.wrap (128 + tt)=128 + tt:=by rcases h0 with h|h <;> rw [h] <;> rfl
 obtain ⟨abC,hab,hab1C⟩:=nb0 HE_5
 have habKC:=nlt HK_5 hab
 have habPC:=nlt HP_5 hab
 obtain ⟨W6,hWn,hba,HC_6⟩:=nb1 (.cells #[.int .u32 0,.int .u32 0,.int .u32 0,.int .u32 0,.int .u32 0,.int .u32 0,.int .u32 0,.int .u32 0,.int .u32 0] 160) hab
 have HK_6:=nB hba HK_5
 have HP_6:=nB hba HP_5
 have HE_6:=nE hba HE_5
 have HL_6:=nL hba HL_5
 clear HK_5 HP_5 HE_5 HL_5
 clear hba
 repeat' (first
  |(rw [hWn,hab];clear hWn hab)
  |(refine wpList_store (t:=160) (v:=.agg (scpu s)) (off:=0) (new:=(scpu s)) rfl rfl rfl rfl aggCpu.size HC_6.out rfl (show 0 + 9≤9 by decide) (onesCpu _ _ _ _ _ _ _ _ _) rfl ?_;intro W7 hp
    have HE_7:=pE hp HE_6
    have HL_7:Hid (LayAt W7 y bs k):=hU (hl.kept hk0 noWork HE_7.out)
    have HC_7:=pA hp
    have HK_7:=pT hp HC_6 HK_6
    have HP_7:=pT hp HC_6 HP_6
    clear hp
    clear HK_6 HP_6 HC_6 HE_6 HL_6)
  |(refine wpList_load (t:=160) (v:=.agg (scpu s)) rfl rfl rfl (run_load_whole aggCpu HC_7.out rfl) ?_)
  |(refine wpList_store (t:=160) (v:=.agg (scpu s)) (off:=3) (new:=({p with r0:=s.rs.getD 0 0,r1:=s.rs.getD 1 0,r2:=s.rs.getD 2 0,r3:=s.rs.getD 3 0,r4:=s.rs.getD 4 0,r5:=s.rs.getD 5 0,r6:=s.rs.getD 6 0,r7:=s.rs.getD 7 0,pc:=s.pc}:Proc).cells) rfl rfl rfl rfl aggCpu.size HP_7.out rfl (show 3 + 9≤26 by decide) (onesCpu _ _ _ _ _ _ _ _ _) rfl ?_;intro W8 hp
    have HE_8:=pE hp HE_7
    have HL_8:Hid (LayAt W8 y bs k):=hU (HL_7.out.putProc (HL_7.out.p.putOff hoffP hp) HP_7.out hp)
    have HP_8:=pA hp
    have HK_8:=pT hp HP_7 HK_7
    have HC_8:=pT hp HP_7 HC_7
    clear hp
    clear HK_7 HP_7 HC_7 HE_7 HL_7)
  |(refine wpList_store1 (t:=9) (v:=.string s.m) (off:=12) (new:=(p.with_ s).cells) rfl rfl rfl rfl oneStr HP_8.out rfl rfl (show 12 + 1≤26 by decide) rfl ?_;intro W9 hp
    have HE_9:=pE hp HE_8
    have HL_9:Hid (LayAt W9 y bs k):=hU (HL_8.out.putProc (HL_8.out.p.putOff hoffP hp) HP_8.out hp)
    have HP_9:=pA hp
    have HK_9:=pT hp HP_8 HK_8
    have HC_9:=pT hp HP_8 HC_8
    clear hp
    clear HK_8 HP_8 HC_8 HE_8 HL_8)
  |go_values|go_skip|go_guarded|(with_reducible refine wg ?_)|go_step|go_upon)
 try clear hWn hab
 refine (WEnds b k pid (128 + tt) tt _ ⟨_,_,HK_9.out,HL_9.out⟩ (by have:=HFT.out.n;omega) HFT.out.t HFT.out.a HFT.out.pl HFT.out.pb HFT.out.hl (by omega) (by omega)).mono ?_
 rintro er W10 ⟨hret,⟨y10,bs10,hkk,hll⟩,hke⟩
 have HP_10:=mB hke HP_9
 have HC_10:=mB hke HC_9
 have HK_10:=hU hkk
 have HE_10:=mE hke HE_9
 have HL_10:=hU hll
 clear hkk hll hke
 clear HK_9 HP_9 HC_9 HE_9 HL_9
 obtain ⟨er2,rfl⟩:=hret
 dsimp only
 repeat' (first|go_values|go_skip|go_guarded|(with_reducible refine wg ?_)|go_step|go_upon)
 go_end0
 subst htt
 subst hs
 exact ⟨⟨_,rfl⟩,⟨_,_,HK_10.out,HL_10.out⟩,HE_10.out⟩
theorem WGoes (b:Nat) (k:Kern) (w:World) (hk:WorkAt w b k) (hT:Tab w) (k0:Kern) (a:Nat) (hbd:Bd k0) (hi:Inv [] k) (hto:Told a k0 k) (ha:a≤100) (hwt:k.want=0):
 Calls Tryz.prog 94 #[.pointer (some ⟨b,0,none⟩)] w (GivesU b (goes k) w):=by
 cases ht:k.t.l with
 |nil=>
  have hg:goes k=k:=by rw [goes,ht]
  rw [hg]
  exact WGoes0 b k w hk hT k0 a hbd hi hto ha hwt ht
 |cons pid r=>
  obtain ⟨p,hp,hpid,h1⟩:=(hi.tn.2 pid).1 (by rw [ht];exact List.mem_cons_self)
  have hf:find k.p pid=some p:=find_st hi.tab.so hp hpid
  rw [goes,ht]
  dsimp only
  rw [hf]
  dsimp only [Option.getD_some]
  rcases with_words (hi.tab.wd p hp) with ⟨_,_,_,hst⟩|hbad
  · by_cases h0:(stepped p).t=0
    · rw [if_pos h0]
      exact WGoesa b k w hk hT k0 a hbd hi hto ha hwt pid r ht p hp hpid h1 h0
    · rw [if_neg h0]
      by_cases h3:(stepped p).t=3
      · rw [if_pos h3]
        exact WGoesb b k w hk hT k0 a hbd hi hto ha hwt pid r ht p hp hpid h1 h3
      · rw [if_neg h3]
        exact WGoesc b k w hk hT k0 a hbd hi hto ha hwt pid r ht p hp hpid h1 (by omega)
  · exact absurd (hi.tab.mem p hp) hbad
end Kn
end Go.Proofs.YtkepkcjjenidgaaGreatDoor
