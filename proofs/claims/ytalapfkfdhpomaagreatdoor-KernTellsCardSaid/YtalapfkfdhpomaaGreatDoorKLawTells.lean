/- The law KernTells: it answers true. Conditions: rows that there can be; the table of the instructions' parts lies there. -/
import Derived.Test.YtalapfkfdhpomaaGreatDoorGLaw
import Derived.Test.YtalapfkfdhpomaaGreatDoorKSameEv
set_option linter.unusedVariables false
set_option linter.unusedSimpArgs false
namespace Go.Proofs.YtalapfkfdhpomaaGreatDoor
open Go.RowKit KR RegT3
namespace Kn
def TellsR (W:World) (a n:Nat) (iv:Value) (wr:World):Prop:=∃ i:Nat,a≤i∧i≤n∧iv=.int .i64 i∧Below W.heap.size W wr
theorem cut_left (a b:ByteArray):(a ++ b).extract 0 a.size=a:=by
 apply ByteArray.ext
 rw [ByteArray.data_extract,ByteArray.data_append]
 show (a.data ++ b.data).extract 0 a.data.size=a.data
 rw [Array.extract_append_left,Array.extract_size]
set_option maxRecDepth 100000 in
set_option maxHeartbeats 4000000 in
theorem LTells (g:Guest) (iv ov nv lv:Value) (l:List Deed) (w:World) (hi:Rd 1 strCells w iv g.images) (ho:Rd 5 Chan.cells w ov g.outs) (hn:Rd 5 Chan.cells w nv g.ins_) (hl:SlDeed w lv l) (n0:0≤g.now) (n1:g.now≤18446744073709551615) (m0: -9223372036854775808≤g.mem) (m1:g.mem≤9223372036854775807) (hs:SmallDeeds l) (hT:Tab w):
 Calls Tryz.prog 6 #[.agg (gcells g iv ov nv),lv] w (Gives (.bool true) w):=by
 have HT:=hU (fun W (h:Below w.heap.size w W)=> hT.below h)
 have HI:=hU (fun W (h:Below w.heap.size w W)=> hi.below h)
 have HO:=hU (fun W (h:Below w.heap.size w W)=> ho.below h)
 have HN:=hU (fun W (h:Below w.heap.size w W)=> hn.below h)
 have HD:=hU (fun W (h:Below w.heap.size w W)=> hl.below h)
 clear hi ho hn hl hT
 obtain ⟨W0,hW0,hb0,HQ_0⟩:=nb1 (W:=w) (.cells (gcells g iv ov nv) 26) rfl
 have HB_0:=hU hb0
 have hzQ:=hlt HQ_0.out
 clear hb0
 go_enter Tryz.func6,Tryz.ntmps6
 repeat' (first|(rw [hW0];clear hW0)|go_values|go_skip|go_guarded|(with_reducible refine Way.go ?_)|go_step|go_upon)
 refine (LShown _ (HT.out _ HB_0.out)).mono ?_
 rintro er W1 ⟨rfl,hb⟩
 have HQ_1:=nB hb HQ_0
 have HB_1:=hU (HB_0.out.trans (hb.mono HB_0.out.size))
 clear hb HQ_0 HB_0
 dsimp only
 repeat' (first|(refine wpList_load (t:=26) (v:=.agg (gcells g iv ov nv)) rfl rfl rfl (run_load_whole aggGuest HQ_1.out rfl) ?_)|go_values|go_skip|go_guarded|(with_reducible refine Way.go ?_)|go_step|go_upon)
 refine (LFew g iv ov nv _ (HI.out _ HB_1.out) (HO.out _ HB_1.out) (HN.out _ HB_1.out)).mono ?_
 rintro er W2 ⟨rfl,hb⟩
 have HQ_2:=nB hb HQ_1
 have HB_2:=hU (HB_1.out.trans (hb.mono HB_1.out.size))
 clear hb HQ_1 HB_1
 dsimp only
 cases hfew:fewB g
 · repeat' (first|go_values|go_skip|go_guarded|(with_reducible refine Way.go ?_)|go_step|go_upon)
   go_ret
   exact gives_of rfl HB_2.out
 have HG:=hU (few_ok hfew n0 n1 m0 m1)
 clear hfew
 repeat' (first|(refine wpList_load (t:=26) (v:=.agg (gcells g iv ov nv)) rfl rfl rfl (run_load_whole aggGuest HQ_2.out rfl) ?_)|go_values|go_skip|go_guarded|(with_reducible refine Way.go ?_)|go_step|go_upon)
 refine (SPlays g iv ov nv lv l _ (HI.out _ HB_2.out) (HO.out _ HB_2.out) (HN.out _ HB_2.out) (HD.out _ HB_2.out) HG.out hs (HT.out _ HB_2.out)).mono ?_
 rintro er W3 ⟨v3,rfl,⟨yk,bs,rfl,hl3⟩,hb⟩
 have HQ_3:=nB hb HQ_2
 have HB_3:=hU (HB_2.out.trans (hb.mono HB_2.out.size))
 have HL_3:=hU hl3
 have hz3:=hlt HQ_3.out
 clear hb HQ_2 HB_2 hl3
 dsimp only
 obtain ⟨k,hk⟩:∃ k,plays g l=k:=⟨_,rfl⟩
 have HGD:Hid (Good 1800 k):=hU (by rw [← hk];exact plays_good HG.out hs)
 rw [hk] at HL_3 ⊢
 have HKP:=hU hk
 clear hk
 obtain ⟨b,hab,hbb⟩:∃ b,W3.heap.size=b∧w.heap.size<b:=⟨_,rfl,hz3⟩
 obtain ⟨W4,hW4,hb4,HK_4⟩:=nb1 (.cells #[.slice none 0 0,.slice none 0 0,.int .i64 0,.slice none 0 0,.slice none 0 0,.int .i64 0,.slice none 0 0,.int .u64 0,.slice none 0 0,.slice none 0 0,.slice none 0 0,.slice none 0 0,.string ⟨#[]⟩,.slice none 0 0,.slice none 0 0,.int .i64 0,.int .i64 0] 43) hab
 have HB_4:=hU (HB_3.out.trans (hb4.mono HB_3.out.size))
 have HQ_4:=nB hb4 HQ_3
 have HL_4:=nL hb4 HL_3
 clear hb4 HB_3 HQ_3 HL_3
 have HON:=hU (onesK HL_4.out)
 repeat' (first
  |(rw [hW4,hab];clear hW4)
  |(refine wpList_store (t:=43) (v:=.agg (kcells yk k)) (off:=0) (new:=kcells yk k) rfl rfl rfl rfl aggKern.size HK_4.out rfl (show 0 + 17≤17 by decide) HON.out rfl ?_;intro W5 hp
    have HK_5:=pA hp
    have HQ_5:=pO hp HQ_4
    have HE_5:Hid (KR.Kept b w W5):=pK hp (hU (Kept.of HB_4.out))
    have HL_5:=pL hp HK_4 HL_4 noKern
    clear hp HK_4 HQ_4 HB_4 HL_4)
  |(refine wpList_load (t:=43) (v:=.agg (kcells yk k)) rfl rfl rfl (run_load_whole aggKern HK_5.out rfl) ?_)
  |go_values|go_skip|go_guarded|(with_reducible refine Way.go ?_)|go_step|go_upon)
 clear hab hz3 HON
 obtain ⟨tq,cs,ht,he,hc,hs⟩:=HGD.out.tells
 have hrd:Ready k:=HGD.out.ready (by decide)
 have htr:=HGD.out.tr
 obtain ⟨k6,hk6⟩:∃ k6,Kn.step k=k6:=⟨_,rfl⟩
 have HB_5:=hU (Kept.low HE_5.out (by omega))
 have e4:=SStep (.agg (kcells yk k)) k W5 ⟨yk,bs,rfl,HL_5.out⟩ hrd (HT.out _ HB_5.out)
 rw [hk6] at ht hc hs e4
 have HST:=hU e4
 have HHT:=hU ht
 have HHE:=hU he
 have HHC:=hU hc
 have HHS:=hU hs
 have HTR:=hU htr
 clear e4 hk6 ht he hc hs hrd htr HE_5 HQ_5
 refine HST.out.mono ?_
 rintro er W6 ⟨v6,rfl,⟨y6,bs6,rfl,hl6⟩,hb6⟩
 have HK_6:=nB hb6 HK_5
 have HL_6:=nL hb6 HL_5
 have HM_6:=hU hl6
 have HB_6:=hU (HB_5.out.trans (hb6.mono HB_5.out.size))
 have hz6:=hlt HK_6.out
 have hy6:=HB_6.out.size
 clear hb6 hl6 HK_5 HL_5 HB_5 HST
 dsimp only
 obtain ⟨b6,hab6,hbb6,hwb6⟩:∃ b6,W6.heap.size=b6∧b<b6∧w.heap.size≤b6:=⟨_,rfl,hz6,hy6⟩
 obtain ⟨W7,hW7,hb7,HR_7⟩:=nb1 (.cells #[.slice none 0 0,.slice none 0 0,.int .i64 0,.slice none 0 0,.slice none 0 0,.int .i64 0,.slice none 0 0,.int .u64 0,.slice none 0 0,.slice none 0 0,.slice none 0 0,.slice none 0 0,.string ⟨#[]⟩,.slice none 0 0,.slice none 0 0,.int .i64 0,.int .i64 0] 43) hab6
 have HK_7:=nB hb7 HK_6
 have HL_7:=nL hb7 HL_6
 have HM_7:=nL hb7 HM_6
 have HB_7:=hU (HB_6.out.trans (hb7.mono HB_6.out.size))
 have HON6:=hU (onesK HM_7.out)
 clear hb7 hz6 hy6 HK_6 HL_6 HM_6 HB_6
 repeat' (first
  |(rw [hW7,hab6];clear hW7)
  |(refine wpList_store (t:=43) (v:=.agg (kcells y6 k6)) (off:=0) (new:=kcells y6 k6) rfl rfl rfl rfl aggKern.size HR_7.out rfl (show 0 + 17≤17 by decide) HON6.out rfl ?_;intro W8 hp
    have HR_8:=pA hp
    have HK_8:=pO hp HK_7
    have HL_8:=pL hp HR_7 HL_7 noKern
    have HM_8:=pL hp HR_7 HM_7 noKern
    have HB_8:=hU (Below.put HB_7.out hp hwb6)
    clear hp HK_7 HR_7 HL_7 HM_7 HB_7)
  |go_values|go_skip|go_guarded|(with_reducible refine Way.go ?_)|go_step|go_upon)
 clear hab6 HON6
 obtain ⟨n,hn⟩:∃ n,k.trace.length=n:=⟨_,rfl⟩
 obtain ⟨N,hN⟩:∃ N,k6.trace.length=N:=⟨_,rfl⟩
 obtain ⟨m,hm⟩:∃ m,k6.sent.length=m:=⟨_,rfl⟩
 have hN2:N=n + tq.length:=by rw [← hN,HHT.out,List.length_append,hn]
 have hn2:n≤14 * 1800:=by rw [← hn];exact HTR.out
 have hm2:m≤tq.length:=by rw [← hm];exact HHS.out
 obtain ⟨ta,tc,hta,_,htc⟩:=HL_8.out.tr.shape
 obtain ⟨tb,td,htb,htd1,htd⟩:=HM_8.out.tr.shape
 obtain ⟨sa,sc,hsa,_,_⟩:=HM_8.out.se.shape
 rw [hn] at hta
 rw [hN] at htb htd1
 rw [hm] at hsa
 have HSU:Hid (Sl 72 4 Ev.cells W8 (.slice ta n tc) k.trace):=hU (by rw [← hta];exact HL_8.out.tr)
 have HSV0:Hid (Sl 72 4 Ev.cells W8 (.slice tb N td) (k.trace ++ tq)):=hU (by rw [← htb,← HHT.out];exact HM_8.out.tr)
 have HSV:Hid (Sl 72 4 Ev.cells W8 (.slice tb n td) k.trace):=hU (by
  have h:=HSV0.out.take n (by omega)
  rwa [← hn,List.take_left,hn] at h)
 have HEV:=hU HSV0.out.elem.2.2.2
 have HSE:=hU (SameEv _ _ _ W8.drew.drew (HSU.out.below (Below.refl _ _).drew.drew) (HSV.out.below (Below.refl _ _).drew.drew) (by rw [hn];omega))
 have k12:W8.cell? ⟨b,12,none⟩=some (.string k.cons):=hcell HK_8.out 12
 have k13:W8.cell? ⟨b,13,none⟩=some (.slice ta n tc):=(hcell HK_8.out 13).trans (congrArg some hta)
 have k7:W8.cell? ⟨b,7,none⟩=some (.int .u64 k.now):=hcell HK_8.out 7
 have r12:W8.cell? ⟨b6,12,none⟩=some (.string k6.cons):=hcell HR_8.out 12
 have r13:W8.cell? ⟨b6,13,none⟩=some (.slice tb N td):=(hcell HR_8.out 13).trans (congrArg some htb)
 have r14:W8.cell? ⟨b6,14,none⟩=some (.slice sa m sc):=(hcell HR_8.out 14).trans (congrArg some hsa)
 have c1:decide ((N:Int)<(n:Int))=false:=by simp;omega
 have c1a:¬ N<n:=by omega
 have c1b:¬ (N:Int)<(n:Int):=by omega
 have hcz:k.cons.size≤k6.cons.size:=by rw [HHC.out,ByteArray.size_append];omega
 have c2:decide ((k6.cons.size:Int)<(k.cons.size:Int))=false:=by simp;omega
 have c2a:¬ k6.cons.size<k.cons.size:=by omega
 have c2b:¬ (k6.cons.size:Int)<(k.cons.size:Int):=by omega
 have hnd:n≤td:=by omega
 have c3:k6.cons.extract 0 k.cons.size=k.cons:=by rw [HHC.out];exact cut_left _ _
 have HC2:=hU hcz
 have HN2:=hU hN2
 have HTA:=hU hta
 have HTB:=hU htb
 have HSA:=hU hsa
 have HTD:Hid (N≤9223372036854775807):=hU (Nat.le_trans htd1 htd)
 clear hN2 hta htb hsa HSV0 HSU HSV HL_8 HM_8
 refine wp_region_noPanic ?_
 refine go0 (S:=fun W=> W.cell? ⟨b,12,none⟩=some (.string k.cons)∧W.cell? ⟨b,13,none⟩=some (.slice ta n tc)∧W.cell? ⟨b6,12,none⟩=some (.string k6.cons)∧W.cell? ⟨b6,13,none⟩=some (.slice tb N td)) [] (⟨k12,k13,r12,r13⟩) fun hS=> ?_
 refine tp 0 ?_;(try simp only [acts])
 refine tl 1 ?_;(try simp only [acts])
 refine tp 2 ?_;(try simp only [acts])
 refine tp 3 ?_;(try simp only [acts])
 refine tl 4 ?_;(try simp only [acts])
 refine tp 5 ?_;(try simp only [acts])
 refine tp 6 ?_;(try simp only [acts])
 refine tp 7 ?_;(try simp only [acts])
 refine tp 8 ?_;(try simp only [acts])
 refine tl 9 ?_;(try simp only [acts])
 refine tp 10 ?_;(try simp only [acts])
 refine tp 11 ?_;(try simp only [acts])
 refine tl 12 ?_;(try simp only [acts])
 refine tp 13 ?_;(try simp only [acts])
 refine tp 14 ?_;(try simp only [acts])
 refine tp 15 ?_;(try simp only [acts])
 refine tp 16 ?_;(try simp only [acts])
 refine tp 17 ?_;(try simp only [acts])
 refine tl 18 ?_;(try simp only [acts])
 refine tp 19 ?_;(try simp only [acts])
 refine tl 20 ?_;(try simp only [acts])
 refine tp 21 ?_;(try simp only [acts])
 refine tp 22 ?_;(try simp only [acts])
 refine tp 23 ?_;(try simp only [acts])
 refine tl 24 ?_;(try simp only [acts])
 refine tp 25 ?_;(try simp only [acts])
 refine tp 26 ?_;(try simp only [acts])
 refine doneL (by kernel_rfl) (NoPanic.normal ?_) _
 clear hS
 repeat' (first|go_values|go_skip|go_guarded|(with_reducible refine Way.go ?_)|go_step|go_upon)
 refine wp_region_noPanic ?_
 refine go0 (S:=fun W=> W.cell? ⟨b,13,none⟩=some (.slice ta n tc)∧W.cell? ⟨b6,13,none⟩=some (.slice tb N td)) [] (⟨k13,r13⟩) fun hS=> ?_
 refine tp 0 ?_;(try simp only [acts])
 refine tl 1 ?_;(try simp only [acts])
 refine tp 2 ?_;(try simp only [acts])
 refine tl 3 ?_;(try simp only [acts])
 refine tp 4 ?_;(try simp only [acts])
 refine tl 5 ?_;(try simp only [acts])
 refine tp 6 ?_;(try simp only [acts])
 refine tp 7 ?_;(try simp only [acts])
 refine ro 8 fun K hK=> ?_
 refine want rfl ?_
 go_simp
 refine HSE.out.mono ?_
 rintro er W9 ⟨rfl,hb9⟩
 have HBE:=hU ((Below.refl W8.heap.size W8).drew.drew.trans hb9)
 have HB_9:=hU (HB_8.out.trans (HBE.out.mono HB_8.out.size))
 have HK_9:=nB HBE.out HK_8
 have HR_9:=nB HBE.out HR_8
 clear k12 k13 k7 r12 r13 r14 hb9 HK_8 HR_8 HB_8 HSE
 have k13:W9.cell? ⟨b,13,none⟩=some (.slice ta n tc):=(hcell HK_9.out 13).trans (congrArg some HTA.out)
 have r13:W9.cell? ⟨b6,13,none⟩=some (.slice tb N td):=(hcell HR_9.out 13).trans (congrArg some HTB.out)
 dsimp only
 try clear hS
 refine nx hK (⟨k13,r13⟩) fun hS=> ?_
 clear hK K
 (try simp only [acts])
 refine tp 9 ?_;(try simp only [acts])
 refine doneL (by kernel_rfl) (NoPanic.normal ?_) _
 clear hS
 repeat' (first|go_values|go_skip|go_guarded|(with_reducible refine Way.go ?_)|go_step|go_upon)
 clear k13 r13
 go_loopw [10] (fun iv wr=> TellsR W9 n N iv wr) (fun iv _=> N - (intOf iv).toNat)
 case atStart=> exact ⟨n,Nat.le_refl _,by have:=HN2.out;omega,rfl,Below.refl _ _⟩
 case round=>
  obtain ⟨i,hi1,hi2,rfl,hb⟩:=hrel
  have HB:=hU hb
  have HKr:=nB hb HK_9
  have HRr:=nB hb HR_9
  have HBr:=hU (HBE.out.trans (hb.mono HBE.out.size))
  have k13:wr.cell? ⟨b,13,none⟩=some (.slice ta n tc):=(hcell HKr.out 13).trans (congrArg some HTA.out)
  have k7:wr.cell? ⟨b,7,none⟩=some (.int .u64 k.now):=hcell HKr.out 7
  have r13:wr.cell? ⟨b6,13,none⟩=some (.slice tb N td):=(hcell HRr.out 13).trans (congrArg some HTB.out)
  have r14:wr.cell? ⟨b6,14,none⟩=some (.slice sa m sc):=(hcell HRr.out 14).trans (congrArg some HSA.out)
  clear hb
  by_cases hil:i<N
  · obtain ⟨x,hx⟩:∃ x,(k.trace ++ tq)[i]? =some x:=⟨_,List.getElem?_eq_getElem (by have:=HN2.out;rw [List.length_append,hn];omega)⟩
    have hxm:x ∈ tq:=by
     rw [List.getElem?_append_right (by omega)] at hx
     exact List.mem_of_getElem? hx
    obtain ⟨x1,x2⟩:=HHE.out x hxm
    obtain ⟨g1,o1,he1,_,hc1⟩:=HEV.out i x hx
    have y3:wr.cell? ⟨g1,o1 + i * 4 + 3,none⟩=some (.int .u64 k.now):=by rw [← x1];exact hc1 wr HBr.out 3 _ rfl
    have y0:wr.cell? ⟨g1,o1 + i * 4,none⟩=some (.int .i64 x.pid):=hc1 wr HBr.out 0 _ rfl
    rw [he1] at r13
    have hj1:(i:Int)<(N:Int):=by omega
    have hj0:(0:Int)≤(i:Int):=by omega
    have d1:decide (x.pid<1)=false:=by simp;omega
    clear hx hxm x1 x2 hc1 he1 c1 c2 c3 c1a c1b c2a c2b hnd
    repeat' (first|go_values|go_skip|go_guarded|(with_reducible refine Way.go ?_)|go_step|go_upon)
    refine wp_region_noPanic ?_
    refine go0 (S:=fun W=> W.cell? ⟨b,7,none⟩=some (.int .u64 k.now)∧W.cell? ⟨b6,13,none⟩=some (.slice (some ⟨g1,o1,none⟩) N td)∧W.cell? ⟨g1,o1 + i * 4 + 3,none⟩=some (.int .u64 k.now)∧W.cell? ⟨g1,o1 + i * 4,none⟩=some (.int .i64 x.pid)) [] (⟨k7,r13,y3,y0⟩) fun hS=> ?_
    refine tp 0 ?_;(try simp only [acts])
    refine tl 1 ?_;(try simp only [acts])
    refine tp 2 ?_;(try simp only [acts])
    refine tp 3 ?_;(try simp only [acts])
    refine tp 4 ?_;(try simp only [acts])
    refine tl 5 ?_;(try simp only [acts])
    refine tp 6 ?_;(try simp only [acts])
    refine tl 7 ?_;(try simp only [acts])
    refine tp 8 ?_;(try simp only [acts])
    refine tp 9 ?_;(try simp only [acts])
    refine tp 10 ?_;(try simp only [acts])
    refine tl 11 ?_;(try simp only [acts])
    refine tp 12 ?_;(try simp only [acts])
    refine tp 13 ?_;(try simp only [acts])
    refine tp 14 ?_;(try simp only [acts])
    refine tl 15 ?_;(try simp only [acts])
    refine tp 16 ?_;(try simp only [acts])
    refine tp 17 ?_;(try simp only [acts])
    refine doneL (by kernel_rfl) (NoPanic.normal ?_) _
    clear hS
    repeat' (first|go_values|go_skip|go_guarded|(with_reducible refine Way.go ?_)|go_step|go_upon)
    exact ⟨⟨i + 1,by omega,by omega,by go_num,HB.out.drew⟩,by simp [intOf];omega⟩
  · have hw:IntKind.i64.wrap ((N:Int) - (n:Int))=(N:Int) - (n:Int):=by rw [IntKind.wrap_i64];have:=HTD.out;omega
    have d2:decide ((m:Int)≤(N:Int) - (n:Int))=true:=by have:=HN2.out;simp;omega
    clear c1 c2 c3 c1a c1b c2a c2b hnd
    repeat' (first|go_values|go_skip|go_guarded|(with_reducible refine Way.go ?_)|go_step|go_upon)
    go_ret
    exact gives_of rfl (HB_9.out.trans (HB.out.mono HB_9.out.size))
end Kn
end Go.Proofs.YtalapfkfdhpomaaGreatDoor
