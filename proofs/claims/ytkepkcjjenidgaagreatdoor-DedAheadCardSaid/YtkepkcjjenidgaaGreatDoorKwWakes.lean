/- work.wakes: who is due wakes, and who needn't wait any more. Conditions: the rows are right, and small. -/
import Derived.Test.YtkepkcjjenidgaaGreatDoorKwTries
import Derived.Test.YtkepkcjjenidgaaGreatDoorKFitB
import Derived.Test.YtkepkcjjenidgaaGreatDoorGSlp
set_option linter.unusedVariables false
set_option maxRecDepth 100000
set_option maxHeartbeats 8000000
set_option linter.unusedSimpArgs false
namespace Go.Proofs.YtkepkcjjenidgaaGreatDoor
open Go.RowKit KR RegT3
namespace Kn
def WakeR1 (b:Nat) (w:World) (k1:Kern) (dv:Value) (D:List Int) (iv:Value) (W:World):Prop:=∃ i:Nat,i≤D.length∧iv=.int .i64 i∧WorkAt W b ((D.take i).foldl wake1 k1)∧SlI W dv D∧KR.Kept b w W
def WakeR2 (b:Nat) (w:World) (k1:Kern) (pv:Value) (l:List Proc) (iv:Value) (W:World):Prop:=∃ i:Nat,i≤l.length∧iv=.int .i64 i∧WorkAt W b ((l.take i).foldl wake2 k1)∧SlP W pv l∧KR.Kept b w W
theorem foldl_take {α β:Type} (f:α→β→α) (l:List β) (i:Nat) (x:β) (h:l[i]? =some x) (a:α):(l.take (i + 1)).foldl f a=f ((l.take i).foldl f a) x:=by
 rw [(take_succ_get h).1,List.foldl_append]
 rfl
structure Wk1 (k kk:Kern) (pid:Int) (p:Proc):Prop where
 fit:Fit kk
 mem:p ∈ kk.p
 hpid:p.pid=pid
 st:p.st=3
 find:find kk.p pid=some p
 wake:wake1 kk pid={answer kk p p.want 0 0 with t:=tadd kk.t pid}
theorem wk1 {k:Kern} (hbd:Bd k) (hi:Inv [] k) {i:Nat} {pid:Int} (hx:(due k.s k.now)[i]? =some pid):∃ p,Wk1 k (((due k.s k.now).take i).foldl wake1 {k with s:=rest k.s k.now}) pid p:=by
 have h0:=hi.due k.now
 have hd:due k.s k.now=(due k.s k.now).take i ++ pid::(due k.s k.now).drop (i + 1):=by
  conv=> lhs;rw [← List.take_append_drop i (due k.s k.now),(take_succ_get hx).2]
 have hlt:=(List.getElem?_eq_some_iff.1 hx).1
 have hlen:(due k.s k.now).length≤6:=by
  have:=hi.al.len
  rw [List.append_nil,← due_rest k.s k.now,List.length_append] at this
  have:=hi.n6
  omega
 rw [hd] at h0
 have h1:=Inv.wakes1 _ h0
 obtain ⟨_,p,hp,hpid,h3⟩:=h1.inv.wake1
 have hf:=find_st h1.inv.tab.so hp hpid
 have ht:Told ((due k.s k.now).take i).length k (((due k.s k.now).take i).foldl wake1 {k with s:=rest k.s k.now}):=h1.told.same rfl rfl rfl rfl rfl rfl rfl rfl rfl rfl
 have hw:∀ kk:Kern,find kk.p pid=some p→wake1 kk pid={answer kk p p.want 0 0 with t:=tadd kk.t pid}:=fun kk hf=> by
  rw [wake1,hf]
  dsimp only
  rw [if_pos h3]
 exact ⟨p,hbd.fit h1.inv ht (by rw [List.length_take];omega),hp,hpid,h3,hf,hw _ hf⟩
structure Wk2 (kk:Kern) (q:Proc):Prop where
 fit:Fit kk
 n:kk.p.length≤6
 call:CFit q.want
 there:q.st=2→∃ r,find kk.p q.pid=some r
theorem wk2 {k:Kern} (hbd:Bd k) (hi:Inv [] k) {i:Nat} {q:Proc} (hx:(wakes1 k).p[i]? =some q):Wk2 (((wakes1 k).p.take i).foldl wake2 (wakes1 k)) q:=by
 have h0:=hi.due k.now
 rw [← List.append_nil (due k.s k.now)] at h0
 have h1:=Inv.wakes1 _ h0
 have hlen:(due k.s k.now).length≤6:=by
  have:=hi.al.len
  rw [List.append_nil,← due_rest k.s k.now,List.length_append] at this
  have:=hi.n6
  omega
 have i1:Inv [] (wakes1 k):=h1.inv
 have t1:Told (due k.s k.now).length k (wakes1 k):=h1.told.same rfl rfl rfl rfl rfl rfl rfl rfl rfl rfl
 have hd:(wakes1 k).p=(wakes1 k).p.take i ++ q::(wakes1 k).p.drop (i + 1):=by
  conv=> lhs;rw [← List.take_append_drop i (wakes1 k).p,(take_succ_get hx).2]
 have h2:=Inv.wakes2 ((wakes1 k).p.take i) (post:=q::(wakes1 k).p.drop (i + 1)) (k:=wakes1 k) i1 (by rw [← hd];exact i1.tab.so) (by rw [← hd];exact i1.tab.wd) (by rw [← hd];exact fun y hy h2=> ⟨y,hy,rfl,h2⟩)
 have hn:=i1.n6
 refine ⟨hbd.fit h2.inv (t1.trans h2.told) (by rw [List.length_take];omega),h2.inv.n6,pword_fit (i1.tab.wd q (List.mem_of_getElem? hx)),fun h=> ?_⟩
 obtain ⟨r,hr,hr1,_⟩:=h2.post q List.mem_cons_self h
 exact ⟨r,find_st h2.inv.tab.so hr hr1⟩
theorem WWakes (b:Nat) (k:Kern) (w:World) (hk:WorkAt w b k) (hbd:Bd k) (hi:Inv [] k):
 Calls Tryz.prog 93 #[.pointer (some ⟨b,0,none⟩)] w (GivesU b (wakes k) w):=by
 have hsl:k.s.length≤6:=by have:=hi.al.len;rw [List.append_nil,List.length_map] at this;have:=hi.n6;omega
 have HBD:=hU hbd
 have HI:=hU hi
 clear hbd hi
 obtain ⟨y,bs,hk0,hl⟩:=hk
 have hbl:=hlt hk0
 have HK_0:Hid (w.heap[b]? =some (.cells (kcells y k) 178 (0,0))):=hU hk0
 have HE_0:Hid (KR.Kept b w w):=hU (KR.Kept.refl b w)
 have HL_0:=hU hl
 have hz0:=Nat.le_refl w.heap.size
 have hzK:=hlt hk0
 go_enter Tryz.func93,Tryz.ntmps93
 repeat' (first
  |go_values|go_skip|go_guarded|(with_reducible refine wg ?_)|go_step|go_upon)
 refine wp_region_noPanic ?_
 refine go0 (S:=fun W=> (W.cell? ⟨b,3,none⟩=some y.s)∧(W.cell? ⟨b,7,none⟩=some (.int .u64 k.now))) [] (⟨hcell HK_0.out 3,hcell HK_0.out 7⟩) fun hS=> ?_
 obtain ⟨W1,hWd⟩:=exW w.drew
 have HK_1:=dB hWd HK_0
 have HE_1:=dE hWd HE_0
 have HL_1:=dL hWd HL_0
 rw [hWd] at hS ⊢
 clear hWd
 clear HK_0 HE_0 HL_0
 refine tp 0 ?_;try simp only [acts]
 refine tp 1 ?_;try simp only [acts]
 refine tp 2 ?_;try simp only [acts]
 refine tp 3 ?_;try simp only [acts]
 refine tl 4 ?_;try simp only [acts]
 refine tp 5 ?_;try simp only [acts]
 refine tp 6 ?_;try simp only [acts]
 refine tp 7 ?_;try simp only [acts]
 refine tp 8 ?_;try simp only [acts]
 refine tl 9 ?_;try simp only [acts]
 refine ro 10 fun K hK=> ?_
 refine want rfl ?_
 go_simp
 refine (Due y.s k.s k.now _ HL_1.out.s (by omega)).mono ?_
 rintro er W2 ⟨v1,v2,rfl,hd1,hd2,hb⟩
 have HK_2:=nB hb HK_1
 have HE_2:=nE hb HE_1
 have HL_2:=nL hb HL_1
 clear HK_1 HE_1 HL_1
 clear hb
 have DU_2:=hU (KR.Own.sl szInt hd1)
 have RE_2:=hU hd2
 dsimp only
 try clear hS
 refine nx hK (⟨hcell HK_2.out 3,hcell HK_2.out 7⟩) fun hS=> ?_
 clear hK K
 (try simp only [acts])
 refine tp 11 ?_;try simp only [acts]
 refine tp 12 ?_;try simp only [acts]
 refine tp 13 ?_;try simp only [acts]
 refine tp 14 ?_;try simp only [acts]
 refine tp 15 ?_;try simp only [acts]
 refine doneL (by kernel_rfl) (NoPanic.normal ?_) _
 try clear hS
 clear hd1 hd2
 obtain ⟨da,dc,hda,hdc,hdm⟩:=DU_2.out.shape
 subst hda
 repeat' (first
  |(refine wpList_store1 (t:=46) (v:=v2) (off:=3) (new:=kcells {y with s:=v2} {k with s:=rest k.s k.now}) rfl rfl rfl rfl oneSAlarm HK_2.out RE_2.out.vcells RE_2.out.vone (show 3 + 1≤17 by decide) rfl ?_;intro W3 hp
    have HL_3:Hid (LayAt W3 {y with s:=v2} bs {k with s:=rest k.s k.now}):=hU ((HL_2.out.setS RE_2.out).put HK_2.out noWork hp)
    have HE_3:=pK hp HE_2
    have HK_3:Hid (W3.heap[b]? =some (.cells (kcells {y with s:=v2} {k with s:=rest k.s k.now}) 178 (0,0))):=pA hp
    have DU_3:=hU (DU_2.out.put HK_2.out hp (by decide))
    have RE_3:=hU (RE_2.out.put HK_2.out hp (by decide))
    clear hp
    clear HK_2 HE_2 HL_2 DU_2 RE_2)
  |go_values|go_skip|go_guarded|(with_reducible refine wg ?_)|go_step|go_upon)
 clear RE_3
 go_loopw [31] (fun iv wr=> WakeR1 b w {k with s:=rest k.s k.now} (.slice da (due k.s k.now).length dc) (due k.s k.now) iv wr) (fun iv _=> (due k.s k.now).length - (intOf iv).toNat)
 case atStart=> exact ⟨0,Nat.zero_le _,rfl,⟨_,_,HK_3.out,HL_3.out⟩,DU_3.out,HE_3.out⟩
 case round=>
  clear HK_3 HE_3 HL_3 DU_3
  obtain ⟨i,hi,rfl,⟨y2,bs2,hk2,hl2⟩,hdu,hke2⟩:=hrel
  obtain ⟨kk,hkk⟩:∃ kk,((due k.s k.now).take i).foldl wake1 {k with s:=rest k.s k.now}=kk:=⟨_,rfl⟩
  rw [hkk] at hk2 hl2
  have HK_4:=hU hk2
  have HE_4:=hU hke2
  have HL_4:=hU hl2
  have hzw2:=hke2.size
  have hbw2:=hlt hk2
  clear hk2 hl2 hke2
  by_cases hil:i<(due k.s k.now).length
  · skip
    obtain ⟨pid,hx⟩:∃ pid,(due k.s k.now)[i]? =some pid:=⟨_,List.getElem?_eq_getElem hil⟩
    obtain ⟨p,hA⟩:=wk1 HBD.out HI.out hx
    have htk:=foldl_take wake1 (due k.s k.now) i pid hx {k with s:=rest k.s k.now}
    rw [hkk] at hA htk
    rw [hA.wake] at htk
    have HTK:=hU htk
    have HA:=hU hA
    obtain ⟨gb,off,hda,hgb,hcell⟩:=hdu.elem.2.2.2 i pid hx
    subst hda
    have c0:wr.cell? ⟨gb,off + i,none⟩=some (.int .i64 pid):=by
     have:=hcell wr (Below.refl _ _) 0 (.int .i64 pid) rfl
     simpa using this
    have DU_4:=hU hdu
    clear hcell htk hA hx hdu hkk
    have kP:wr.cell? ⟨b,0,none⟩=some y2.p:=hcell HK_4.out 0
    repeat' (first
     |go_values|go_skip|go_guarded|(with_reducible refine wg ?_)|go_step|go_upon)
    refine (TFind y2.p kk.p pid _ HL_4.out.p).mono ?_
    rw [HA.out.find]
    dsimp only [Option.getD_some,Option.isSome_some]
    rintro er W5 ⟨rfl,hb⟩
    have HK_5:=nB hb HK_4
    have HE_5:=nE hb HE_4
    have HL_5:=nL hb HL_4
    have DU_5:=hU (DU_4.out.below hb)
    clear HK_4 HE_4 HL_4 DU_4
    clear hb kP c0
    dsimp only
    obtain ⟨abP,hab,hab1P⟩:=nb0 HE_5
    have habKP:=nlt HK_5 hab
    have hoffP:=HL_5.out.p.offNew (Nat.le_of_eq hab)
    obtain ⟨W6,hWn,hba,HP_6⟩:=nb1 (.cells #[.int .i64 0,.int .i64 0,.int .i64 0,.int .u32 0,.int .u32 0,.int .u32 0,.int .u32 0,.int .u32 0,.int .u32 0,.int .u32 0,.int .u32 0,.int .u32 0,.string ⟨#[]⟩,.int .i64 0,.int .i64 0,.bool false,.int .i64 0,.bool false,.int .i64 0,.bool false,.int .i64 0,.bool false,.int .u32 0,.int .u32 0,.int .u32 0,.int .u32 0] 167) hab
    have HK_6:=nB hba HK_5
    have HE_6:=nE hba HE_5
    have HL_6:=nL hba HL_5
    have DU_6:=hU (DU_5.out.below hba)
    clear HK_5 HE_5 HL_5 DU_5
    clear hba
    repeat' (first
     |(rw [hWn,hab];clear hWn hab)
     |(refine wpList_store (t:=167) (v:=.agg p.cells) (off:=0) (new:=p.cells) rfl rfl rfl rfl aggProc.size HP_6.out rfl (show 0 + 26≤26 by decide) (onesProc p) rfl ?_;intro W7 hp
       have HE_7:=pE hp HE_6
       have HL_7:Hid (LayAt W7 y2 bs2 kk):=hU (HL_6.out.putProc (HL_6.out.p.putOff hoffP hp) HP_6.out hp)
       have HP_7:=pA hp
       have HK_7:=pT hp HP_6 HK_6
       have DU_7:=hU (DU_6.out.put HP_6.out hp (by decide))
       clear hp
       clear HK_6 HP_6 HE_6 HL_6 DU_6
       have kS:W7.cell? ⟨abP,2,none⟩=some (.int .i64 3):=(hcell HP_7.out 2).trans (congrArg (fun z=> some (Value.int .i64 z)) HA.out.st))
     |(refine wpList_load (t:=167) (v:=.agg p.cells) rfl rfl rfl (run_load_whole aggProc HP_7.out rfl) ?_)
     |(refine wpList_load (t:=165) (v:=.agg p.want.cells) rfl rfl rfl (run_load_part aggCall HP_7.out rfl rfl) ?_)
     |go_values|go_skip|go_guarded|(with_reducible refine wg ?_)|go_step|go_upon)
    try clear hWn hab
    try clear kS
    refine (WAnswer b kk p p.want 0 0 _ ⟨_,_,HK_7.out,HL_7.out⟩ (by decide) (by decide) (by have:=HA.out.fit.n;omega) HA.out.fit.tr).mono ?_
    rintro er W8 ⟨hret,⟨y8,bs8,hkk,hll⟩,hke⟩
    have HP_8:=mB hke HP_7
    have DU_8:=hU (DU_7.out.kept HK_7.out hke (by decide))
    have HK_8:=hU hkk
    have HE_8:=mE hke HE_7
    have HL_8:=hU hll
    clear hkk hll hke
    clear HK_7 HP_7 HE_7 HL_7 DU_7
    obtain ⟨er2,rfl⟩:=hret
    dsimp only
    have kT1:W8.cell? ⟨b,1,none⟩=some y8.t:=hcell HK_8.out 1
    have kT2:W8.cell? ⟨b,2,none⟩=some (.int .i64 kk.t.left):=hcell HK_8.out 2
    repeat' (first
     |go_values|go_skip|go_guarded|(with_reducible refine wg ?_)|go_step|go_upon)
    refine (TAdd _ kk.t pid _ ⟨y8.t,rfl,HL_8.out.t⟩ (by have:=HA.out.fit.t;omega)).mono ?_
    rintro er W9 ⟨v7,rfl,⟨u7,rfl,ht7⟩,hb⟩
    have HK_9:=nB hb HK_8
    have HP_9:=nB hb HP_8
    have HE_9:=nE hb HE_8
    have HL_9:=nL hb HL_8
    have DU_9:=hU (DU_8.out.below hb)
    clear HK_8 HP_8 HE_8 HL_8 DU_8
    clear hb kT1 kT2
    have ST_9:=hU ht7
    clear ht7
    dsimp only
    repeat' (first
     |(refine wpList_store (t:=45) (v:=.agg #[u7,.int .i64 (tadd kk.t pid).left]) (off:=1) (new:=kcells {y8 with t:=u7} {answer kk p p.want 0 0 with t:=tadd kk.t pid}) rfl rfl rfl rfl aggTurn.size HK_9.out rfl (show 1 + 2≤17 by decide) (onesT ST_9.out) rfl ?_;intro W10 hp
       have HL_10:Hid (LayAt W10 {y8 with t:=u7} bs8 {answer kk p p.want 0 0 with t:=tadd kk.t pid}):=hU ((HL_9.out.setT ST_9.out).put HK_9.out noWork hp)
       have HE_10:=pK hp HE_9
       have HK_10:Hid (W10.heap[b]? =some (.cells (kcells {y8 with t:=u7} {answer kk p p.want 0 0 with t:=tadd kk.t pid}) 178 (0,0))):=pA hp
       have HP_10:=pT hp HK_9 HP_9
       have DU_10:=hU (DU_9.out.put HK_9.out hp (by decide))
       have ST_10:=hU (ST_9.out.put HK_9.out hp (by decide))
       clear hp
       clear HK_9 HP_9 HE_9 HL_9 DU_9 ST_9)
     |go_values|go_skip|go_guarded|(with_reducible refine wg ?_)|go_step|go_upon)
    clear ST_10
    repeat' (first|go_values|go_skip|go_guarded|(with_reducible refine wg ?_)|go_step|go_upon)
    exact ⟨⟨i + 1,by omega,by go_num,⟨{y8 with t:=u7},bs8,by rw [HTK.out];exact HK_10.out,by rw [HTK.out];exact HL_10.out⟩,DU_10.out,HE_10.out⟩,by simp [intOf];omega⟩
  · have hie:i=(due k.s k.now).length:=by omega
    have hk1:kk=wakes1 k:=by rw [← hkk,hie,List.take_length];rfl
    clear hkk hie
    subst hk1
    clear hdu
    obtain ⟨pa,pc,hpa,hpc,_⟩:=HL_4.out.p.shape
    have hsv:SlP wr (.slice pa (wakes1 k).p.length pc) (wakes1 k).p:=by rw [← hpa];exact HL_4.out.p
    have kP:wr.cell? ⟨b,0,none⟩=some (.slice pa (wakes1 k).p.length pc):=(hcell HK_4.out 0).trans (congrArg some hpa)
    clear hpa
    repeat' (first
     |go_values|go_skip|go_guarded|(with_reducible refine wg ?_)|go_step|go_upon)
    clear kP
    obtain ⟨wo,rfl⟩:∃ wo:World,wo=wr:=⟨wr,rfl⟩
    go_loopw [74] (fun iv wr=> WakeR2 b w (wakes1 k) (.slice pa (wakes1 k).p.length pc) (wakes1 k).p iv wr) (fun iv _=> (wakes1 k).p.length - (intOf iv).toNat)
    case atStart=> exact ⟨0,Nat.zero_le _,rfl,⟨_,_,HK_4.out,HL_4.out⟩,hsv,HE_4.out⟩
    case round=>
     clear HK_4 HE_4 HL_4
     clear hsv
     obtain ⟨j,hj,rfl,⟨y3,bs3,hk3,hl3⟩,hsv,hke3⟩:=hrel
     obtain ⟨kj,hkj⟩:∃ kj,((wakes1 k).p.take j).foldl wake2 (wakes1 k)=kj:=⟨_,rfl⟩
     rw [hkj] at hk3 hl3
     have HK_5:=hU hk3
     have HE_5:=hU hke3
     have HL_5:=hU hl3
     have hzw3:=hke3.size
     have hbw3:=hlt hk3
     clear hk3 hl3 hke3
     by_cases hjl:j<(wakes1 k).p.length
     · skip
       obtain ⟨q,hx⟩:∃ q,(wakes1 k).p[j]? =some q:=⟨_,List.getElem?_eq_getElem hjl⟩
       have hA:=wk2 HBD.out HI.out hx
       have htk:=foldl_take wake2 (wakes1 k).p j q hx (wakes1 k)
       rw [hkj] at hA htk
       have HA:=hU hA
       obtain ⟨gb,off,hpa,hgb,hcell⟩:=hsv.elem.2.2.2 j q hx
       subst hpa
       have HCELL:=hU (hcell wr (Below.refl _ _))
       have SV_5:=hU hsv
       clear hcell hA hx hsv hkj
       by_cases h2:q.st=2
       rotate_left
       · have g2:(q.st !=2)=true:=by simp [h2]
         have hw:wake2 kj q=kj:=by rw [wake2,if_neg h2]
         rw [hw] at htk
         have HTK:=hU htk
         clear htk hw h2
         obtain ⟨abQ,hab,hab1Q⟩:=nb0 HE_5
         have habKQ:=nlt HK_5 hab
         have hoffQ:=HL_5.out.p.offNew (Nat.le_of_eq hab)
         have hoffS:=SV_5.out.offNew (Nat.le_of_eq hab)
         obtain ⟨W6,hWn,hba,HQ_6⟩:=nb1 (.cells #[.int .i64 0,.int .i64 0,.int .i64 0,.int .u32 0,.int .u32 0,.int .u32 0,.int .u32 0,.int .u32 0,.int .u32 0,.int .u32 0,.int .u32 0,.int .u32 0,.string ⟨#[]⟩,.int .i64 0,.int .i64 0,.bool false,.int .i64 0,.bool false,.int .i64 0,.bool false,.int .i64 0,.bool false,.int .u32 0,.int .u32 0,.int .u32 0,.int .u32 0] 167) hab
         have HK_6:=nB hba HK_5
         have HE_6:=nE hba HE_5
         have HL_6:=nL hba HL_5
         have SV_6:=hU (SV_5.out.below hba)
         clear HK_5 HE_5 HL_5 SV_5
         clear hba
         repeat' (first
          |(rw [hWn,hab];clear hWn hab)
          |(refine wpList_load (t:=167) (v:=.agg q.cells) rfl rfl rfl (run_load_arr aggProc rfl HCELL.out) ?_)
          |(refine wpList_store (t:=167) (v:=.agg q.cells) (off:=0) (new:=q.cells) rfl rfl rfl rfl aggProc.size HQ_6.out rfl (show 0 + 26≤26 by decide) (onesProc q) rfl ?_;intro W7 hp
            have HE_7:=pE hp HE_6
            have HL_7:Hid (LayAt W7 y3 bs3 kj):=hU (HL_6.out.putProc (HL_6.out.p.putOff hoffQ hp) HQ_6.out hp)
            have HQ_7:=pA hp
            have HK_7:=pT hp HQ_6 HK_6
            have SV_7:=hU (SV_6.out.putOff hoffS hp)
            clear hp
            clear HK_6 HQ_6 HE_6 HL_6 SV_6
            have kQ2:W7.cell? ⟨abQ,2,none⟩=some (.int .i64 q.st):=hcell HQ_7.out 2
            have kQ0:W7.cell? ⟨abQ,0,none⟩=some (.int .i64 q.pid):=hcell HQ_7.out 0)
          |(refine wpList_load (t:=165) (v:=.agg q.want.cells) rfl rfl rfl (run_load_part aggCall HQ_7.out rfl rfl) ?_)
          |go_values|go_skip|go_guarded|(with_reducible refine wg ?_)|go_step|go_upon)
         exact ⟨⟨j + 1,by omega,by go_num,⟨y3,bs3,by rw [HTK.out];exact HK_7.out,by rw [HTK.out];exact HL_7.out⟩,SV_7.out,HE_7.out⟩,by simp [intOf];omega⟩
       have g2:(q.st !=2)=false:=by simp [h2]
       obtain ⟨r,hr⟩:=HA.out.there h2
       obtain ⟨ht2,hn2,he0,he1⟩:=tried_keeps kj r q.want
       have HR:=hU hr
       have HT2:=hU ht2
       have HN2:=hU hn2
       have HE0:=hU he0
       have HE1:=hU he1
       have HTK0:=hU htk
       have HH2:=hU h2
       clear hr ht2 hn2 he0 he1 htk h2
       obtain ⟨abQ,hab,hab1Q⟩:=nb0 HE_5
       have habKQ:=nlt HK_5 hab
       have hoffQ:=HL_5.out.p.offNew (Nat.le_of_eq hab)
       have hoffS:=SV_5.out.offNew (Nat.le_of_eq hab)
       obtain ⟨W6,hWn,hba,HQ_6⟩:=nb1 (.cells #[.int .i64 0,.int .i64 0,.int .i64 0,.int .u32 0,.int .u32 0,.int .u32 0,.int .u32 0,.int .u32 0,.int .u32 0,.int .u32 0,.int .u32 0,.int .u32 0,.string ⟨#[]⟩,.int .i64 0,.int .i64 0,.bool false,.int .i64 0,.bool false,.int .i64 0,.bool false,.int .i64 0,.bool false,.int .u32 0,.int .u32 0,.int .u32 0,.int .u32 0] 167) hab
       have HK_6:=nB hba HK_5
       have HE_6:=nE hba HE_5
       have HL_6:=nL hba HL_5
       have SV_6:=hU (SV_5.out.below hba)
       clear HK_5 HE_5 HL_5 SV_5
       clear hba
       repeat' (first
        |(rw [hWn,hab];clear hWn hab)
        |(refine wpList_load (t:=167) (v:=.agg q.cells) rfl rfl rfl (run_load_arr aggProc rfl HCELL.out) ?_)
        |(refine wpList_store (t:=167) (v:=.agg q.cells) (off:=0) (new:=q.cells) rfl rfl rfl rfl aggProc.size HQ_6.out rfl (show 0 + 26≤26 by decide) (onesProc q) rfl ?_;intro W7 hp
          have HE_7:=pE hp HE_6
          have HL_7:Hid (LayAt W7 y3 bs3 kj):=hU (HL_6.out.putProc (HL_6.out.p.putOff hoffQ hp) HQ_6.out hp)
          have HQ_7:=pA hp
          have HK_7:=pT hp HQ_6 HK_6
          have SV_7:=hU (SV_6.out.putOff hoffS hp)
          clear hp
          clear HK_6 HQ_6 HE_6 HL_6 SV_6
          have kQ2:W7.cell? ⟨abQ,2,none⟩=some (.int .i64 q.st):=hcell HQ_7.out 2
          have kQ0:W7.cell? ⟨abQ,0,none⟩=some (.int .i64 q.pid):=hcell HQ_7.out 0)
        |(refine wpList_load (t:=165) (v:=.agg q.want.cells) rfl rfl rfl (run_load_part aggCall HQ_7.out rfl rfl) ?_)
        |go_values|go_skip|go_guarded|(with_reducible refine wg ?_)|go_step|go_upon)
       try clear hWn hab
       try clear kQ2 kQ0
       refine (WTries b kj q.pid r q.want _ ⟨_,_,HK_7.out,HL_7.out⟩ HA.out.fit HA.out.call HR.out (Nat.le_trans HN2.out (by have:=HA.out.n;omega)) (by rw [HT2.out];exact HA.out.fit.tr) HE0.out HE1.out).mono ?_
       rintro er W8 ⟨hret,⟨y8,bs8,hkk,hll⟩,hke⟩
       have HQ_8:=mB hke HQ_7
       have SV_8:=hU (SV_7.out.kept HK_7.out hke (by decide))
       have HK_8:=hU hkk
       have HE_8:=mE hke HE_7
       have HL_8:=hU hll
       clear hkk hll hke
       clear HK_7 HQ_7 HE_7 HL_7 SV_7
       subst hret
       dsimp only
       cases ht:triesB kj q.pid q.want
       · have HTK:Hid (((wakes1 k).p.take (j + 1)).foldl wake2 (wakes1 k)=(tries kj q.pid q.want)):=hU (HTK0.out.trans (by rw [wake2,if_pos HH2.out,ht];rfl))
         repeat' (first
          |go_values|go_skip|go_guarded|(with_reducible refine wg ?_)|go_step|go_upon)
         exact ⟨⟨j + 1,by omega,by go_num,⟨y8,bs8,by rw [HTK.out];exact HK_8.out,by rw [HTK.out];exact HL_8.out⟩,SV_8.out,HE_8.out⟩,by simp [intOf];omega⟩
       have HTK:Hid (((wakes1 k).p.take (j + 1)).foldl wake2 (wakes1 k)={(tries kj q.pid q.want) with t:=tadd (tries kj q.pid q.want).t q.pid}):=hU (HTK0.out.trans (by rw [wake2,if_pos HH2.out,ht];rfl))
       have htl:(tries kj q.pid q.want).t.l.length≤1000000:=by rw [tries_t];exact HA.out.fit.t
       clear ht
       repeat' (first
        |go_values|go_skip|go_guarded|(with_reducible refine wg ?_)|go_step|go_upon)
       refine wp_region_noPanic ?_
       refine go0 (S:=fun W=> (W.cell? ⟨b,1,none⟩=some y8.t)∧(W.cell? ⟨b,2,none⟩=some (.int .i64 (tries kj q.pid q.want).t.left))∧(W.cell? ⟨abQ,0,none⟩=some (.int .i64 q.pid))) [12] (⟨hcell HK_8.out 1,hcell HK_8.out 2,hcell HQ_8.out 0⟩) fun hS=> ?_
       obtain ⟨W9,hWd⟩:=exW W8.drew
       have HK_9:=dB hWd HK_8
       have HQ_9:=dB hWd HQ_8
       have HE_9:=dE hWd HE_8
       have HL_9:=dL hWd HL_8
       have SV_9:=dS hWd SV_8
       rw [hWd] at hS ⊢
       clear hWd
       clear HK_8 HQ_8 HE_8 HL_8 SV_8
       refine tp 0 ?_;try simp only [acts]
       refine tp 1 ?_;try simp only [acts]
       refine tp 2 ?_;try simp only [acts]
       refine tp 3 ?_;try simp only [acts]
       refine tp 4 ?_;try simp only [acts]
       refine tl 5 ?_;try simp only [acts]
       refine tp 6 ?_;try simp only [acts]
       refine tl 7 ?_;try simp only [acts]
       refine ro 8 fun K hK=> ?_
       refine want rfl ?_
       go_simp
       refine (TAdd _ (tries kj q.pid q.want).t q.pid _ ⟨y8.t,rfl,HL_9.out.t⟩ (by omega)).mono ?_
       rintro er W10 ⟨v7,rfl,⟨u7,rfl,ht7⟩,hb⟩
       have HK_10:=nB hb HK_9
       have HQ_10:=nB hb HQ_9
       have HE_10:=nE hb HE_9
       have HL_10:=nL hb HL_9
       have SV_10:=hU (SV_9.out.below hb)
       clear HK_9 HQ_9 HE_9 HL_9 SV_9
       clear hb
       have ST_10:=hU ht7
       dsimp only
       try clear hS
       refine nx hK (⟨hcell HK_10.out 1,hcell HK_10.out 2,hcell HQ_10.out 0⟩) fun hS=> ?_
       clear hK K
       (try simp only [acts])
       refine tp 9 ?_;try simp only [acts]
       refine tp 10 ?_;try simp only [acts]
       refine tp 11 ?_;try simp only [acts]
       refine ro 12 fun K hK=> ?_
       refine want rfl ?_
       refine wp_store (v:=.agg #[u7,.int .i64 (tadd (tries kj q.pid q.want).t q.pid).left]) (off:=1) (new:=kcells {y8 with t:=u7} {(tries kj q.pid q.want) with t:=tadd (tries kj q.pid q.want).t q.pid}) rfl rfl rfl aggTurn.size HK_10.out rfl (show 1 + 2≤17 by decide) (onesT ST_10.out) rfl ?_
       intro W11 hp
       have HL_11:Hid (LayAt W11 {y8 with t:=u7} bs8 {(tries kj q.pid q.want) with t:=tadd (tries kj q.pid q.want).t q.pid}):=hU ((HL_10.out.setT ST_10.out).put HK_10.out noWork hp)
       have HE_11:=pK hp HE_10
       have HK_11:Hid (W11.heap[b]? =some (.cells (kcells {y8 with t:=u7} {(tries kj q.pid q.want) with t:=tadd (tries kj q.pid q.want).t q.pid}) 178 (0,0))):=pA hp
       have HQ_11:=pT hp HK_10 HQ_10
       have SV_11:=hU (SV_10.out.put HK_10.out hp (by decide))
       have ST_11:=hU (ST_10.out.put HK_10.out hp (by decide))
       clear hp
       clear HK_10 HQ_10 HE_10 HL_10 SV_10 ST_10
       refine nt hK ?_
       clear hK K
       try clear hS
       (try simp only [acts])
       refine doneL (by kernel_rfl) (NoPanic.normal ?_) _
       try clear hS
       clear ST_11
       repeat' (first|go_values|go_skip|go_guarded|(with_reducible refine wg ?_)|go_step|go_upon)
       exact ⟨⟨j + 1,by omega,by go_num,⟨{y8 with t:=u7},bs8,by rw [HTK.out];exact HK_11.out,by rw [HTK.out];exact HL_11.out⟩,SV_11.out,HE_11.out⟩,by simp [intOf];omega⟩
     · have hje:j=(wakes1 k).p.length:=by omega
       have hk4:kj=wakes k:=by rw [← hkj,hje,List.take_length];rfl
       clear hkj hje
       subst hk4
       clear hsv
       repeat' (first|go_values|go_skip|go_guarded|(with_reducible refine wg ?_)|go_step|go_upon)
       go_end0
       exact ⟨⟨_,rfl⟩,⟨_,_,HK_5.out,HL_5.out⟩,HE_5.out⟩
end Kn
end Go.Proofs.YtkepkcjjenidgaaGreatDoor
