/- The law KernOver: it answers true. Conditions: rows that there can be; the table of the instructions' parts lies there. -/
import Derived.Test.YtalapfkfdhpomaaGreatDoorGLaw
import Derived.Test.YtalapfkfdhpomaaGreatDoorGSame
set_option linter.unusedVariables false
set_option linter.unusedSimpArgs false
namespace Go.Proofs.YtalapfkfdhpomaaGreatDoor
open Go.RowKit KR RegT3
namespace Kn
theorem over_dec (k:Kern):(k.gone==0)=true∨((k.gone==0)=false∧(decide (4611686018427387904<k.now)=true∨decide (4611686018427387904<k.now)=false)):=by
 cases (k.gone==0) <;> cases decide (4611686018427387904<k.now) <;> simp
theorem over_step {k:Kern} (h:k.gone ≠ 0) (h0:0≤k.now) (h1:k.now≤9223372036854775807):step k={k with sent:=[],want:=0,now:=k.now + 1}:=by
 have hn:til k.now 1=k.now + 1:=by unfold til;omega
 simp only [Kn.step,if_neg h,hn]
theorem over_run {k:Kern} (h:k.gone ≠ 0) (h0:0≤k.now) (h1:k.now≤4611686018427387904):∀ n:Nat,n≤60→∃ s w,run n k={k with sent:=s,want:=w,now:=k.now + n}∧(0<n→s=[]∧w=0)
 |0,_=> ⟨k.sent,k.want,by show k=_;simp,fun h=> absurd h (Nat.lt_irrefl 0)⟩
 |n + 1,hn=> by
  obtain ⟨s,w,e,_⟩:=over_run h h0 h1 n (by omega)
  refine ⟨[],0,?_,fun _=> ⟨rfl,rfl⟩⟩
  rw [run_succ,e,over_step (k:={k with sent:=s,want:=w,now:=k.now + n}) h (by show 0≤k.now + n;omega) (by show k.now + n≤_;omega)]
  simp only [Int.natCast_add,Int.natCast_one,Int.add_assoc]
set_option maxRecDepth 100000 in
set_option maxHeartbeats 4000000 in
theorem LOver (g:Guest) (iv ov nv lv:Value) (l:List Deed) (n:Int) (w:World) (hi:Rd 1 strCells w iv g.images) (ho:Rd 5 Chan.cells w ov g.outs) (hn:Rd 5 Chan.cells w nv g.ins_) (hl:SlDeed w lv l) (n0:0≤g.now) (n1:g.now≤18446744073709551615) (m0: -9223372036854775808≤g.mem) (m1:g.mem≤9223372036854775807) (hs:SmallDeeds l) (hT:Tab w):
 Calls Tryz.prog 8 #[.agg (gcells g iv ov nv),lv,.int .i64 n] w (Gives (.bool true) w):=by
 have HT:=hU (fun W (h:Below w.heap.size w W)=> hT.below h)
 have HI:=hU (fun W (h:Below w.heap.size w W)=> hi.below h)
 have HO:=hU (fun W (h:Below w.heap.size w W)=> ho.below h)
 have HN:=hU (fun W (h:Below w.heap.size w W)=> hn.below h)
 have HD:=hU (fun W (h:Below w.heap.size w W)=> hl.below h)
 clear hi ho hn hl hT
 obtain ⟨W0,hW0,hb0,HQ_0⟩:=nb1 (W:=w) (.cells (gcells g iv ov nv) 26) rfl
 have HB_0:=hU hb0
 have hzQ:=hlt HQ_0.out
 clear hb0
 go_enter Tryz.func8,Tryz.ntmps8
 repeat' (first|(rw [hW0];clear hW0)|go_values|go_skip|go_guarded|(with_reducible refine Way.go ?_)|go_step|go_upon)
 refine (LShown _ (HT.out _ HB_0.out)).mono ?_
 rintro er W1 ⟨rfl,hb⟩
 have HQ_1:=nB hb HQ_0
 have HB_1:=hU (HB_0.out.trans (hb.mono HB_0.out.size))
 clear hb HQ_0 HB_0
 dsimp only
 repeat' (first|(refine wpList_load (t:=26) (v:=.agg (gcells g iv ov nv)) rfl rfl rfl (run_load_whole aggGuest HQ_1.out rfl) ?_)|go_values|go_skip|go_guarded|(with_reducible refine Way.go ?_)|go_step|go_upon)
 refine (LFew g iv ov nv _ (HI.out _ HB_1.out) (HO.out _ HB_1.out) (HN.out _ HB_1.out)).mono ?_
 rintro er W2 ⟨rfl,hb⟩
 have HQ_2:=nB hb HQ_1
 have HB_2:=hU (HB_1.out.trans (hb.mono HB_1.out.size))
 clear hb HQ_1 HB_1
 dsimp only
 cases hfew:fewB g
 · repeat' (first|go_values|go_skip|go_guarded|(with_reducible refine Way.go ?_)|go_step|go_upon)
   go_ret
   exact gives_of rfl HB_2.out
 have HG:=hU (few_ok hfew n0 n1 m0 m1)
 clear hfew
 by_cases c1:n<0
 · have d1:decide (n<0)=true:=decide_eq_true c1
   repeat' (first|go_values|go_skip|go_guarded|(with_reducible refine Way.go ?_)|go_step|go_upon)
   go_ret
   exact gives_of rfl HB_2.out
 have d1:decide (n<0)=false:=decide_eq_false c1
 by_cases c2:60<n
 · have d2:decide (60<n)=true:=decide_eq_true c2
   repeat' (first|go_values|go_skip|go_guarded|(with_reducible refine Way.go ?_)|go_step|go_upon)
   go_ret
   exact gives_of rfl HB_2.out
 have d2:decide (60<n)=false:=decide_eq_false c2
 repeat' (first|(refine wpList_load (t:=26) (v:=.agg (gcells g iv ov nv)) rfl rfl rfl (run_load_whole aggGuest HQ_2.out rfl) ?_)|go_values|go_skip|go_guarded|(with_reducible refine Way.go ?_)|go_step|go_upon)
 refine (SPlays g iv ov nv lv l _ (HI.out _ HB_2.out) (HO.out _ HB_2.out) (HN.out _ HB_2.out) (HD.out _ HB_2.out) HG.out hs (HT.out _ HB_2.out)).mono ?_
 rintro er W3 ⟨v3,rfl,⟨yk,bs,rfl,hl3⟩,hb⟩
 have HQ_3:=nB hb HQ_2
 have HB_3:=hU (HB_2.out.trans (hb.mono HB_2.out.size))
 have HL_3:=hU hl3
 have hz3:=hlt HQ_3.out
 clear hb HQ_2 HB_2 hl3
 dsimp only
 obtain ⟨k,hk⟩:∃ k,plays g l=k:=⟨_,rfl⟩
 have HGD:Hid (Good 1800 k):=hU (by rw [← hk];exact plays_good HG.out hs)
 rw [hk] at HL_3 ⊢
 have HKP:=hU hk
 clear hk
 obtain ⟨b,hab,hbb⟩:∃ b,W3.heap.size=b∧w.heap.size<b:=⟨_,rfl,hz3⟩
 obtain ⟨W4,hW4,hb4,HK_4⟩:=nb1 (.cells #[.slice none 0 0,.slice none 0 0,.int .i64 0,.slice none 0 0,.slice none 0 0,.int .i64 0,.slice none 0 0,.int .u64 0,.slice none 0 0,.slice none 0 0,.slice none 0 0,.slice none 0 0,.string ⟨#[]⟩,.slice none 0 0,.slice none 0 0,.int .i64 0,.int .i64 0] 43) hab
 have HB_4:=hU (HB_3.out.trans (hb4.mono HB_3.out.size))
 have HQ_4:=nB hb4 HQ_3
 have HL_4:=nL hb4 HL_3
 clear hb4 HB_3 HQ_3 HL_3
 have HON:=hU (onesK HL_4.out)
 repeat' (first
  |(rw [hW4,hab];clear hW4)
  |(refine wpList_store (t:=43) (v:=.agg (kcells yk k)) (off:=0) (new:=kcells yk k) rfl rfl rfl rfl aggKern.size HK_4.out rfl (show 0 + 17≤17 by decide) HON.out rfl ?_;intro W5 hp
    have HK_5:=pA hp
    have HQ_5:=pO hp HQ_4
    have HE_5:Hid (KR.Kept b w W5):=pK hp (hU (Kept.of HB_4.out))
    have HL_5:=pL hp HK_4 HL_4 noKern
    have kg:W5.cell? ⟨b,16,none⟩=some (.int .i64 k.gone):=hcell HK_5.out 16
    have kn:W5.cell? ⟨b,7,none⟩=some (.int .u64 k.now):=hcell HK_5.out 7
    have HB_5:=hU (Kept.low HE_5.out (by omega))
    clear hp HK_4 HQ_4 HB_4 HL_4
    rcases over_dec k with b1|⟨b1,b2|b2⟩)
  |(refine wpList_load (t:=43) (v:=.agg (kcells yk k)) rfl rfl rfl (run_load_whole aggKern HK_5.out rfl) ?_)
  |go_values|go_skip|go_guarded|(with_reducible refine Way.go ?_)|go_step|go_upon)
 all_goals clear hab hz3 HON
 clear HQ_5
 · go_ret
   exact gives_of rfl HB_5.out
 · go_ret
   exact gives_of rfl HB_5.out
 have hg:k.gone ≠ 0:=by simpa using b1
 have hbig:¬ 4611686018427387904<k.now:=by simpa using b2
 have HGN:=hU hg
 clear hg
 obtain ⟨m,hnm⟩:=Int.eq_ofNat_of_zero_le (show 0≤n by omega)
 have hm60:m≤60:=by omega
 have h0:=HGD.out.now0
 obtain ⟨ss,ww,hrun,hsw⟩:=over_run HGN.out h0 (by omega) m hm60
 rw [← hnm] at hrun
 obtain ⟨k5,hk5⟩:∃ k5,k5={k with sent:=ss,want:=ww,now:=k.now + n}:=⟨_,rfl⟩
 rw [← hk5] at hrun
 have HK5:=hU hk5
 have hn5:k5.now=k.now + n:=by rw [hk5]
 have HN5:=hU hn5
 have hsw5:0<m→k5.sent=[]∧k5.want=0:=by rw [hk5];exact hsw
 clear hsw hk5 hn5
 have e4:=SRun (.agg (kcells yk k)) k m n W5 ⟨yk,bs,rfl,HL_5.out⟩ (by omega) (by omega) (fun j hj=> (HGD.out.run j).ready (by omega)) (HT.out _ HB_5.out)
 rw [hrun] at e4
 have HST:=hU e4
 have HSW:=hU hsw5
 have hw1:IntKind.u64.wrap n=n:=by rw [IntKind.wrap_u64];omega
 have hw2:IntKind.u64.wrap (k.now + n)=k.now + n:=by rw [IntKind.wrap_u64];omega
 have HNM:=hU hnm
 clear e4 hrun hsw5 c1 c2 hnm hm60 hbig HGD HGN
 refine HST.out.mono ?_
 rintro er W6 ⟨v6,rfl,⟨y6,bs6,rfl,hl6⟩,hb6⟩
 have HK_6:=nB hb6 HK_5
 have HL_6:=nL hb6 HL_5
 have HM_6:=hU hl6
 have HB_6:=hU (HB_5.out.trans (hb6.mono HB_5.out.size))
 have hz6:=hlt HK_6.out
 have hy6:=HB_6.out.size
 clear kg kn b1 b2 hb6 hl6 HK_5 HL_5 HB_5 HST
 dsimp only
 obtain ⟨b6,hab6,hbb6,hwb6⟩:∃ b6,W6.heap.size=b6∧b<b6∧w.heap.size≤b6:=⟨_,rfl,hz6,hy6⟩
 obtain ⟨W7,hW7,hb7,HR_7⟩:=nb1 (.cells #[.slice none 0 0,.slice none 0 0,.int .i64 0,.slice none 0 0,.slice none 0 0,.int .i64 0,.slice none 0 0,.int .u64 0,.slice none 0 0,.slice none 0 0,.slice none 0 0,.slice none 0 0,.string ⟨#[]⟩,.slice none 0 0,.slice none 0 0,.int .i64 0,.int .i64 0] 43) hab6
 have HK_7:=nB hb7 HK_6
 have HL_7:=nL hb7 HL_6
 have HM_7:=nL hb7 HM_6
 have HB_7:=hU (HB_6.out.trans (hb7.mono HB_6.out.size))
 have HON6:=hU (onesK HM_7.out)
 clear hb7 hz6 hy6 HK_6 HL_6 HM_6 HB_6
 obtain ⟨sa,sc,hsa,hsc1,hsc2⟩:=HM_7.out.se.shape
 obtain ⟨L,hL⟩:∃ L,k5.sent.length=L:=⟨_,rfl⟩
 have hsa':y6.se=.slice sa L sc:=hL ▸ hsa
 have HSA:=hU hsa'
 have hdec:decide ((0:Int)<n)=false∨(decide ((0:Int)<n)=true∧(decide ((0:Int)<(L:Int))=false∧decide (0<L)=false)∧(k5.want !=0)=false):=by
  have hnm:=HNM.out
  by_cases hm0:0<m
  · obtain ⟨e1,e2⟩:=HSW.out hm0
    right
    rw [e1] at hL
    rw [e2]
    have:L=0:=hL.symm
    subst this
    simp
    omega
  · left
    simp
    omega
 clear hsa hsa' hL hsc1 hsc2 HSW
 repeat' (first
  |(rw [hW7,hab6];clear hW7)
  |(refine wpList_store (t:=43) (v:=.agg (kcells y6 k5)) (off:=0) (new:=(kcells y6 k5)) rfl rfl rfl rfl aggKern.size HR_7.out rfl (show 0 + 17≤17 by decide) HON6.out rfl ?_;intro W8 hp
    have HR_8:=pA hp
    have HK_8:=pO hp HK_7
    have HL_8:=pL hp HR_7 HL_7 noKern
    have HM_8:=pL hp HR_7 HM_7 noKern
    have HB_8:=hU (Below.put HB_7.out hp hwb6)
    clear hp HK_7 HR_7 HL_7 HM_7 HB_7)
  |go_values|go_skip|go_guarded|(with_reducible refine Way.go ?_)|go_step|go_upon)
 have k7:W8.cell? ⟨b,7,none⟩=some (.int .u64 k.now):=hcell HK_8.out 7
 have r7:W8.cell? ⟨b6,7,none⟩=some (.int .u64 (k.now + n)):=(hcell HR_8.out 7).trans (congrArg (fun z=> some (Value.int .u64 z)) HN5.out)
 have r14:W8.cell? ⟨b6,14,none⟩=some (.slice sa L sc):=(hcell HR_8.out 14).trans (congrArg some HSA.out)
 have r15:W8.cell? ⟨b6,15,none⟩=some (.int .i64 k5.want):=hcell HR_8.out 15
 try clear hW7
 clear hab6 HON6
 rcases hdec with bm|⟨bm,⟨bl,bln⟩,bw⟩
 all_goals
  rw [r7]
  dsimp only [Result.andThen]
  iterate 40 (try (first|go_values|go_skip|go_guarded|(with_reducible refine Way.go ?_)|go_step|go_upon))
  repeat' (first
   |(refine wpList_store1 (t:=24) (v:=.int .u64 k.now) (off:=7) (new:=(kcells y6 {k5 with now:=k.now})) rfl rfl rfl rfl oneU64 HR_8.out rfl rfl (show 7 + 1≤17 by decide) rfl ?_;intro W9 hp
     have HR_9:=pA hp
     have HK_9:=pO hp HK_8
     have HL_9:=pL hp HR_8 HL_8 noKern
     have HM_9:=pL hp HR_8 HM_8 noKern
     have HB_9:=hU (Below.put HB_8.out hp hwb6)
     have k14:W9.cell? ⟨b,14,none⟩=some yk.se:=hcell HK_9.out 14
     clear k7 r7 r14 r15
     clear hp HR_8 HK_8 HL_8 HM_8 HB_8)
   |(refine wpList_store1 (t:=41) (v:=yk.se) (off:=14) (new:=(kcells {y6 with se:=yk.se} {k5 with now:=k.now})) rfl rfl rfl rfl oneSOut HR_9.out HL_9.out.se.vcells HL_9.out.se.vone (show 14 + 1≤17 by decide) rfl ?_;intro W10 hp
     have HR_10:=pA hp
     have HK_10:=pO hp HK_9
     have HL_10:=pL hp HR_9 HL_9 noKern
     have HM_10:=pL hp HR_9 HM_9 noKern
     have HB_10:=hU (Below.put HB_9.out hp hwb6)
     have k15:W10.cell? ⟨b,15,none⟩=some (.int .i64 k.want):=hcell HK_10.out 15
     clear hp HR_9 HK_9 HL_9 HM_9 HB_9)
   |(refine wpList_store1 (t:=3) (v:=.int .i64 k.want) (off:=15) (new:=(kcells {y6 with se:=yk.se} {k5 with now:=k.now,want:=k.want})) rfl rfl rfl rfl oneInt HR_10.out rfl rfl (show 15 + 1≤17 by decide) rfl ?_;intro W11 hp
     have HR_11:=pA hp
     have HK_11:=pO hp HK_10
     have HL_11:=pL hp HR_10 HL_10 noKern
     have HM_11:=pL hp HR_10 HM_10 noKern
     have HB_11:=hU (Below.put HB_10.out hp hwb6)
     clear hp HR_10 HK_10 HL_10 HM_10 HB_10)
   |(refine wpList_load (t:=43) (v:=.agg (kcells {y6 with se:=yk.se} {k5 with now:=k.now,want:=k.want})) rfl rfl rfl (run_load_whole aggKern HR_11.out rfl) ?_;clear HR_11)
   |(refine wpList_load (t:=43) (v:=.agg (kcells yk k)) rfl rfl rfl (run_load_whole aggKern HK_11.out rfl) ?_;clear HK_11)
   |go_values|go_skip|go_guarded|(with_reducible refine Way.go ?_)|go_step|go_upon)
  have hq:=HM_11.out
  have hz:=HL_11.out
  have hx:LayAt W11 {y6 with se:=yk.se} bs6 k:=by
   rw [HK5.out] at hq
   exact ⟨hq.p,hq.t,hq.s,hq.pi,hq.h,hq.im,hq.ou,hq.ins_,hq.bx,hq.bse,hq.ok,hq.tr,hz.se⟩
  have hc9:(kcells {y6 with se:=yk.se} {k5 with now:=k.now,want:=k.want})=kcells {y6 with se:=yk.se} k:=by rw [HK5.out];rfl
  have e5:=SameKern (.agg (kcells {y6 with se:=yk.se} {k5 with now:=k.now,want:=k.want})) (.agg (kcells yk k)) k W11 ⟨_,bs6,congrArg Value.agg hc9,hx⟩ ⟨yk,bs,rfl,hz⟩
  refine e5.mono ?_
  rintro er W12 ⟨rfl,hb⟩
  have HB_12:=hU (HB_11.out.trans (hb.mono HB_11.out.size))
  clear hb
  dsimp only
  repeat' (first|go_values|go_skip|go_guarded|(with_reducible refine Way.go ?_)|go_step|go_upon)
  go_ret
  exact gives_of rfl HB_12.out
end Kn
end Go.Proofs.YtalapfkfdhpomaaGreatDoor
