/- The law KernBlind: it answers true. Conditions: rows that there can be; the table of the instructions' parts lies there. What the law is asked of, as it comes in. No condition. The card of KernBlind: what arrives changes nothing but the box where it arrives; for every guest, every script, every message. -/
import Derived.Test.YtalapfkfdhpomaaGreatDoorGLaw
import Derived.Test.YtalapfkfdhpomaaGreatDoorGEq
import Derived.Test.YtalapfkfdhpomaaGreatDoorGCard
set_option linter.unusedVariables false
set_option linter.unusedSimpArgs false
namespace Go.Proofs.YtalapfkfdhpomaaGreatDoor
open Go.RowKit KR RegT3
namespace Kn
def bcells (g:Guest) (iv ov nv lv:Value) (pn:Int) (body:ByteArray) (at_:Int):Array Value:=#[.int .i64 g.mem,iv,ov,nv,.int .u64 g.now,lv,.int .i64 pn,.string body,.int .u64 at_]
theorem arrive_box (k:Kern) (n:Int) (body:ByteArray) (at_:Int):∃ bx,arrive k n body at_={k with box:=bx}∧bx.length=k.box.length∧∀ i:Nat,(i:Int) ≠ n→bx[i]? =k.box[i]? :=by
 unfold arrive
 split
 · exact ⟨k.box,rfl,rfl,fun _ _=> rfl⟩
 next hn=>
 split
 · exact ⟨_,rfl,List.length_set,fun i hi=> List.getElem?_set_ne (by omega)⟩
 · exact ⟨k.box,rfl,rfl,fun _ _=> rfl⟩
theorem onesG {w:World} {g:Guest} {iv ov nv:Value} (hi:Rd 1 strCells w iv g.images) (ho:Rd 5 Chan.cells w ov g.outs) (hn:Rd 5 Chan.cells w nv g.ins_):∀ u ∈ (Value.agg (gcells g iv ov nv)).cells.toList,u.oneCell'=true:=by
 obtain ⟨_,_,rfl,_⟩:=hi.shape
 obtain ⟨_,_,rfl,_⟩:=ho.shape
 obtain ⟨_,_,rfl,_⟩:=hn.shape
 intro u hu
 simp only [Value.cells,gcells,List.mem_cons,List.not_mem_nil,or_false] at hu
 rcases hu with rfl|rfl|rfl|rfl|rfl <;> rfl
set_option maxRecDepth 100000 in
set_option maxHeartbeats 4000000 in
theorem LBlind (g:Guest) (iv ov nv lv:Value) (l:List Deed) (pn:Int) (body:ByteArray) (at_:Int) (w:World) (hi:Rd 1 strCells w iv g.images) (ho:Rd 5 Chan.cells w ov g.outs) (hn:Rd 5 Chan.cells w nv g.ins_) (hl:SlDeed w lv l) (n0:0≤g.now) (n1:g.now≤18446744073709551615) (m0: -9223372036854775808≤g.mem) (m1:g.mem≤9223372036854775807) (hs:SmallDeeds l) (hT:Tab w):
 Calls Tryz.prog 10 #[.agg (bcells g iv ov nv lv pn body at_)] w (Gives (.bool true) w):=by
 have HT:=hU (fun W (h:Below w.heap.size w W)=> hT.below h)
 have HI:=hU (fun W (h:Below w.heap.size w W)=> hi.below h)
 have HO:=hU (fun W (h:Below w.heap.size w W)=> ho.below h)
 have HN:=hU (fun W (h:Below w.heap.size w W)=> hn.below h)
 have HD:=hU (fun W (h:Below w.heap.size w W)=> hl.below h)
 have HOG:=hU (onesG hi ho hn)
 clear hi ho hn hl hT
 obtain ⟨W0,hW0,hb0,HP_0⟩:=nb1 (W:=w) (.cells (bcells g iv ov nv lv pn body at_) 80) rfl
 have HPB:=hU hb0
 obtain ⟨q,haq,hwq⟩:∃ q,W0.heap.size=q∧w.heap.size<q:=⟨_,rfl,hlt HP_0.out⟩
 obtain ⟨W9,hW9,hb9,HQ_z⟩:=nb1 (.cells #[.int .i64 0,.slice none 0 0,.slice none 0 0,.slice none 0 0,.int .u64 0] 26) haq
 have HP_9:=nB hb9 HP_0
 have HPB9:=hU (HPB.out.trans (hb9.mono HPB.out.size))
 clear hb0 hb9
 go_enter Tryz.func10,Tryz.ntmps10
 repeat' (first
  |(rw [hW0];clear hW0)
  |(refine wpList_load (t:=26) (v:=.agg (gcells g iv ov nv)) rfl rfl rfl (run_load_part aggGuest HP_0.out rfl rfl) ?_)
  |(rw [hW9,haq];clear hW9)
  |(refine wpList_store (t:=26) (v:=.agg (gcells g iv ov nv)) (off:=0) (new:=gcells g iv ov nv) rfl rfl rfl rfl aggGuest.size HQ_z.out rfl (show 0 + 5≤5 by decide) HOG.out rfl ?_;intro WA hp
    have HQ_0:=pA hp
    have HP_A:=pO hp HP_9
    have HB_0:=hU (Below.put HPB9.out hp (by omega))
    have p5:WA.cell? ⟨w.heap.size,5,none⟩=some lv:=hcell HP_A.out 5
    have p6:WA.cell? ⟨w.heap.size,6,none⟩=some (.int .i64 pn):=hcell HP_A.out 6
    have p7:WA.cell? ⟨w.heap.size,7,none⟩=some (.string body):=hcell HP_A.out 7
    have p8:WA.cell? ⟨w.heap.size,8,none⟩=some (.int .u64 at_):=hcell HP_A.out 8
    clear hp HQ_z HP_9 HP_0 HPB9 HPB)
  |go_values|go_skip|go_guarded|(with_reducible refine Way.go ?_)|go_step|go_upon)
 clear haq HOG
 refine (LShown _ (HT.out _ HB_0.out)).mono ?_
 rintro er W1 ⟨rfl,hb⟩
 have HQ_1:=nB hb HQ_0
 have HB_1:=hU (HB_0.out.trans (hb.mono HB_0.out.size))
 clear hb HQ_0 HB_0 HP_A p5 p6 p7 p8
 dsimp only
 repeat' (first|(refine wpList_load (t:=26) (v:=.agg (gcells g iv ov nv)) rfl rfl rfl (run_load_whole aggGuest HQ_1.out rfl) ?_)|go_values|go_skip|go_guarded|(with_reducible refine Way.go ?_)|go_step|go_upon)
 refine (LFew g iv ov nv _ (HI.out _ HB_1.out) (HO.out _ HB_1.out) (HN.out _ HB_1.out)).mono ?_
 rintro er W2 ⟨rfl,hb⟩
 have HQ_2:=nB hb HQ_1
 have HB_2:=hU (HB_1.out.trans (hb.mono HB_1.out.size))
 clear hb HQ_1 HB_1
 dsimp only
 cases hfew:fewB g
 · repeat' (first|go_values|go_skip|go_guarded|(with_reducible refine Way.go ?_)|go_step|go_upon)
   go_ret
   exact gives_of rfl HB_2.out
 have HG:=hU (few_ok hfew n0 n1 m0 m1)
 clear hfew
 repeat' (first|(refine wpList_load (t:=26) (v:=.agg (gcells g iv ov nv)) rfl rfl rfl (run_load_whole aggGuest HQ_2.out rfl) ?_)|go_values|go_skip|go_guarded|(with_reducible refine Way.go ?_)|go_step|go_upon)
 refine (SPlays g iv ov nv lv l _ (HI.out _ HB_2.out) (HO.out _ HB_2.out) (HN.out _ HB_2.out) (HD.out _ HB_2.out) HG.out hs (HT.out _ HB_2.out)).mono ?_
 rintro er W3 ⟨v3,rfl,⟨yk,bs,rfl,hl3⟩,hb⟩
 have HQ_3:=nB hb HQ_2
 have HB_3:=hU (HB_2.out.trans (hb.mono HB_2.out.size))
 have HL_3:=hU hl3
 have hz3:w.heap.size<W3.heap.size:=by have:=hlt HQ_3.out;omega
 clear hb HQ_2 HB_2 hl3
 dsimp only
 obtain ⟨k,hk⟩:∃ k,plays g l=k:=⟨_,rfl⟩
 have HGD:Hid (Good 1800 k):=hU (by rw [← hk];exact plays_good HG.out hs)
 rw [hk] at HL_3 ⊢
 have HKP:=hU hk
 clear hk
 obtain ⟨b,hab,hbb,hqb⟩:∃ b,W3.heap.size=b∧w.heap.size<b∧q<b:=⟨_,rfl,hz3,hlt HQ_3.out⟩
 obtain ⟨W4,hW4,hb4,HK_4⟩:=nb1 (.cells #[.slice none 0 0,.slice none 0 0,.int .i64 0,.slice none 0 0,.slice none 0 0,.int .i64 0,.slice none 0 0,.int .u64 0,.slice none 0 0,.slice none 0 0,.slice none 0 0,.slice none 0 0,.string ⟨#[]⟩,.slice none 0 0,.slice none 0 0,.int .i64 0,.int .i64 0] 43) hab
 have HB_4:=hU (HB_3.out.trans (hb4.mono HB_3.out.size))
 have HQ_4:=nB hb4 HQ_3
 have HL_4:=nL hb4 HL_3
 clear hb4 HB_3 HQ_3 HL_3
 have HON:=hU (onesK HL_4.out)
 repeat' (first
  |(rw [hW4,hab];clear hW4)
  |(refine wpList_store (t:=43) (v:=.agg (kcells yk k)) (off:=0) (new:=kcells yk k) rfl rfl rfl rfl aggKern.size HK_4.out rfl (show 0 + 17≤17 by decide) HON.out rfl ?_;intro W5 hp
    have HK_5:=pA hp
    have HQ_5:=pO hp HQ_4
    have HE_5:Hid (KR.Kept b w W5):=pK hp (hU (Kept.of HB_4.out))
    have HL_5:=pL hp HK_4 HL_4 noKern
    clear hp HK_4 HQ_4 HB_4 HL_4)
  |(refine wpList_load (t:=43) (v:=.agg (kcells yk k)) rfl rfl rfl (run_load_whole aggKern HK_5.out rfl) ?_)
  |go_values|go_skip|go_guarded|(with_reducible refine Way.go ?_)|go_step|go_upon)
 clear hab hz3 HON
 have HB_5:=hU (Kept.low HE_5.out (by omega))
 obtain ⟨bx,hbx,hbl,hbi⟩:=arrive_box k pn body at_
 have e4:=SArrive (.agg (kcells yk k)) k pn body at_ W5 ⟨yk,bs,rfl,HL_5.out⟩ (by have:=HGD.out.bl;omega) (by have:=HGD.out.il;omega) (fun q hq=> by have:=HGD.out.bn q hq;omega)
 rw [hbx] at e4
 have HST:=hU e4
 have HBL:=hU hbl
 have HBI:=hU hbi
 have hsz:bs.length=k.box.length:=by rw [← HL_5.out.bse,List.length_map]
 have HSZ:=hU hsz
 clear e4 hbx hbl hbi hsz HGD HQ_5 HE_5
 refine HST.out.mono ?_
 rintro er W6 ⟨v6,rfl,⟨y6,bs6,rfl,hl6⟩,hb6⟩
 have HK_6:=nB hb6 HK_5
 have HL_6:=nL hb6 HL_5
 have HM_6:=hU hl6
 have HB_6:=hU (HB_5.out.trans (hb6.mono HB_5.out.size))
 have hz6:=hlt HK_6.out
 have hy6:=HB_6.out.size
 clear hb6 hl6 HK_5 HL_5 HB_5 HST
 dsimp only
 obtain ⟨b6,hab6,hbb6,hwb6⟩:∃ b6,W6.heap.size=b6∧b<b6∧w.heap.size≤b6:=⟨_,rfl,hz6,hy6⟩
 obtain ⟨W7,hW7,hb7,HR_7⟩:=nb1 (.cells #[.slice none 0 0,.slice none 0 0,.int .i64 0,.slice none 0 0,.slice none 0 0,.int .i64 0,.slice none 0 0,.int .u64 0,.slice none 0 0,.slice none 0 0,.slice none 0 0,.slice none 0 0,.string ⟨#[]⟩,.slice none 0 0,.slice none 0 0,.int .i64 0,.int .i64 0] 43) hab6
 have HK_7:=nB hb7 HK_6
 have HL_7:=nL hb7 HL_6
 have HM_7:=nL hb7 HM_6
 have HB_7:=hU (HB_6.out.trans (hb7.mono HB_6.out.size))
 have HON6:=hU (onesK HM_7.out)
 clear hb7 hz6 hy6 HK_6 HL_6 HM_6 HB_6
 obtain ⟨xa,xc,hxa,_,hxm⟩:=HL_7.out.bx.shape
 obtain ⟨za,zc,hza,_,_⟩:=HM_7.out.bx.shape
 have hs6:bs6.length=bs.length:=by rw [HSZ.out,← HBL.out];have:=congrArg List.length HM_7.out.bse;simpa using this
 have HXA:=hU hxa
 have HZA:=hU hza
 have hsI:(bs6.length:Int)=(bs.length:Int):=by omega
 have HS6:=hU hs6
 clear hxa hza hs6
 repeat' (first
  |(rw [hW7,hab6];clear hW7)
  |(refine wpList_store (t:=43) (v:=.agg (kcells y6 {k with box:=bx})) (off:=0) (new:=(kcells y6 {k with box:=bx})) rfl rfl rfl rfl aggKern.size HR_7.out rfl (show 0 + 17≤17 by decide) HON6.out rfl ?_;intro W8 hp
    have HR_8:=pA hp
    have HK_8:=pO hp HK_7
    have HL_8:=pL hp HR_7 HL_7 noKern
    have HM_8:=pL hp HR_7 HM_7 noKern
    have HB_8:=hU (Below.put HB_7.out hp hwb6)
    have k11:W8.cell? ⟨b,11,none⟩=some (.slice xa bs.length xc):=(hcell HK_8.out 11).trans (congrArg some HXA.out)
    have r11:W8.cell? ⟨b6,11,none⟩=some (.slice za bs6.length zc):=(hcell HR_8.out 11).trans (congrArg some HZA.out)
    clear hp HK_7 HR_7 HL_7 HM_7 HB_7)
  |go_values|go_skip|go_guarded|(with_reducible refine Way.go ?_)|go_step|go_upon)
 clear k11 r11 HON6 hab6
 go_loopw [12] (fun iv wr=> SameR W8 bs.length iv wr) (fun iv _=> bs.length - (intOf iv).toNat)
 case atStart=> exact ⟨0,Nat.zero_le _,rfl,Below.refl _ _⟩
 case round=>
  obtain ⟨i,hi,rfl,hb⟩:=hrel
  have HB:=hU hb
  have HK_9:=nB hb HK_8
  have HR_9:=nB hb HR_8
  have k11:wr.cell? ⟨b,11,none⟩=some (.slice xa bs.length xc):=(hcell HK_9.out 11).trans (congrArg some HXA.out)
  have r11:wr.cell? ⟨b6,11,none⟩=some (.slice za bs6.length zc):=(hcell HR_9.out 11).trans (congrArg some HZA.out)
  by_cases hil:i<bs.length
  · have hj1:(i:Int)<(bs.length:Int):=by omega
    have hj2:(i:Int)<(bs6.length:Int):=by omega
    have hj0:(0:Int)≤(i:Int):=by omega
    by_cases hip:(i:Int)=pn
    · have d1:((i:Int) !=pn)=false:=by simp [hip]
      clear hb hip hj2
      repeat' (first|go_values|go_skip|go_guarded|(with_reducible refine Way.go ?_)|go_step|go_upon)
      refine wp_region_noPanic ?_
      refine go0 (S:=fun _=> True) [] trivial fun hS=> ?_
      refine tp 0 ?_;(try simp only [acts])
      refine tp 1 ?_;(try simp only [acts])
      refine tp 2 ?_;(try simp only [acts])
      refine tp 3 ?_;(try simp only [acts])
      refine tn 4 ?_;(try simp only [acts])
      refine tn 5 ?_;(try simp only [acts])
      refine tn 6 ?_;(try simp only [acts])
      refine tn 7 ?_;(try simp only [acts])
      refine tn 8 ?_;(try simp only [acts])
      refine tn 9 ?_;(try simp only [acts])
      refine tn 10 ?_;(try simp only [acts])
      refine tn 11 ?_;(try simp only [acts])
      refine tn 12 ?_;(try simp only [acts])
      refine tn 13 ?_;(try simp only [acts])
      refine tn 14 ?_;(try simp only [acts])
      refine tn 15 ?_;(try simp only [acts])
      refine tn 16 ?_;(try simp only [acts])
      refine tn 17 ?_;(try simp only [acts])
      refine tn 18 ?_;(try simp only [acts])
      refine tn 19 ?_;(try simp only [acts])
      refine tn 20 ?_;(try simp only [acts])
      refine tn 21 ?_;(try simp only [acts])
      refine tn 22 ?_;(try simp only [acts])
      refine tn 23 ?_;(try simp only [acts])
      refine tn 24 ?_;(try simp only [acts])
      refine tn 25 ?_;(try simp only [acts])
      refine tn 26 ?_;(try simp only [acts])
      refine tn 27 ?_;(try simp only [acts])
      refine tn 28 ?_;(try simp only [acts])
      refine tn 29 ?_;(try simp only [acts])
      refine tn 30 ?_;(try simp only [acts])
      refine tn 31 ?_;(try simp only [acts])
      refine tn 32 ?_;(try simp only [acts])
      refine tn 33 ?_;(try simp only [acts])
      refine tp 34 ?_;(try simp only [acts])
      refine doneL (by kernel_rfl) (NoPanic.normal ?_) _
      clear hS
      repeat' (first|go_values|go_skip|go_guarded|(with_reducible refine Way.go ?_)|go_step|go_upon)
      exact ⟨⟨i + 1,by omega,by go_num,HB.out.drew⟩,by simp [intOf];omega⟩
    · have d1:((i:Int) !=pn)=true:=by simp [hip]
      obtain ⟨⟨p1,m1,z⟩,hx⟩:∃ x,bs[i]? =some x:=⟨_,List.getElem?_eq_getElem hil⟩
      obtain ⟨⟨p2,m2,z'⟩,hy⟩:∃ x,bs6[i]? =some x:=⟨_,List.getElem?_eq_getElem (by have:=HS6.out;omega)⟩
      obtain rfl:z=z':=by
       have e1:=congrArg (fun l=> l[i]?) HL_8.out.bse
       have e2:=congrArg (fun l=> l[i]?) HM_8.out.bse
       have e3:=HBI.out i hip
       simp only [List.getElem?_map,hx,hy,Option.map_some] at e1 e2
       rw [← e1,← e2] at e3
       exact (Option.some.inj e3).symm
      have hq1:=HL_8.out.bx
      have hq2:=HM_8.out.bx
      rw [HXA.out] at hq1
      rw [HZA.out] at hq2
      obtain ⟨g1,o1,hg1,_,hc1⟩:=hq1.elem.2.2.2 i _ hx
      obtain ⟨g2,o2,hg2,_,hc2⟩:=hq2.elem.2.2.2 i _ hy
      rw [hg1] at k11
      rw [hg2] at r11
      have c0:wr.cell? ⟨g1,o1 + i * 2,none⟩=some (.slice p1 z.l.length m1):=hc1 wr hb 0 _ rfl
      have c1:wr.cell? ⟨g1,o1 + i * 2 + 1,none⟩=some (.int .i64 z.lost):=hc1 wr hb 1 _ rfl
      have e0:wr.cell? ⟨g2,o2 + i * 2,none⟩=some (.slice p2 z.l.length m2):=hc2 wr hb 0 _ rfl
      have e1:wr.cell? ⟨g2,o2 + i * 2 + 1,none⟩=some (.int .i64 z.lost):=hc2 wr hb 1 _ rfl
      clear hb hx hy hq1 hq2 hg1 hg2 hc1 hc2 hip
      repeat' (first|go_values|go_skip|go_guarded|(with_reducible refine Way.go ?_)|go_step|go_upon)
      refine wp_region_noPanic ?_
      refine go0 (S:=fun W=> W.cell? ⟨b,11,none⟩=some (.slice (some ⟨g1,o1,none⟩) bs.length xc)∧W.cell? ⟨b6,11,none⟩=some (.slice (some ⟨g2,o2,none⟩) bs6.length zc)∧W.cell? ⟨g1,o1 + i * 2,none⟩=some (.slice p1 z.l.length m1)∧W.cell? ⟨g1,o1 + i * 2 + 1,none⟩=some (.int .i64 z.lost)∧W.cell? ⟨g2,o2 + i * 2,none⟩=some (.slice p2 z.l.length m2)∧W.cell? ⟨g2,o2 + i * 2 + 1,none⟩=some (.int .i64 z.lost)) [] ⟨k11,r11,c0,c1,e0,e1⟩ fun hS=> ?_
      refine tp 0 ?_;(try simp only [acts])
      refine tp 1 ?_;(try simp only [acts])
      refine tp 2 ?_;(try simp only [acts])
      refine tp 3 ?_;(try simp only [acts])
      refine tp 4 ?_;(try simp only [acts])
      refine tl 5 ?_;(try simp only [acts])
      refine tp 6 ?_;(try simp only [acts])
      refine tp 7 ?_;(try simp only [acts])
      refine tp 8 ?_;(try simp only [acts])
      refine tl 9 ?_;(try simp only [acts])
      refine tp 10 ?_;(try simp only [acts])
      refine tp 11 ?_;(try simp only [acts])
      refine tl 12 ?_;(try simp only [acts])
      refine tp 13 ?_;(try simp only [acts])
      refine tp 14 ?_;(try simp only [acts])
      refine tp 15 ?_;(try simp only [acts])
      refine tl 16 ?_;(try simp only [acts])
      refine tp 17 ?_;(try simp only [acts])
      refine tp 18 ?_;(try simp only [acts])
      refine tp 19 ?_;(try simp only [acts])
      refine tp 20 ?_;(try simp only [acts])
      refine tl 21 ?_;(try simp only [acts])
      refine tp 22 ?_;(try simp only [acts])
      refine tp 23 ?_;(try simp only [acts])
      refine tp 24 ?_;(try simp only [acts])
      refine tl 25 ?_;(try simp only [acts])
      refine tp 26 ?_;(try simp only [acts])
      refine tl 27 ?_;(try simp only [acts])
      refine tp 28 ?_;(try simp only [acts])
      refine tp 29 ?_;(try simp only [acts])
      refine tp 30 ?_;(try simp only [acts])
      refine tl 31 ?_;(try simp only [acts])
      refine tp 32 ?_;(try simp only [acts])
      refine tp 33 ?_;(try simp only [acts])
      refine tp 34 ?_;(try simp only [acts])
      refine doneL (by kernel_rfl) (NoPanic.normal ?_) _
      clear hS
      repeat' (first|go_values|go_skip|go_guarded|(with_reducible refine Way.go ?_)|go_step|go_upon)
      exact ⟨⟨i + 1,by omega,by go_num,HB.out.drew⟩,by simp [intOf];omega⟩
  · have HL_9:=nL hb HL_8
    have HM_9:=nL hb HM_8
    have HB_9:=hU (HB_8.out.trans (hb.mono HB_8.out.size))
    have hjn:¬ (i:Int)<(bs.length:Int):=by omega
    clear hb r11 HL_8 HM_8 HK_8 HR_8
    repeat' (first
     |(refine wpList_store1 (t:=39) (v:=.slice xa bs.length xc) (off:=11) (new:=(kcells {y6 with bx:=.slice xa bs.length xc} k)) rfl rfl rfl rfl oneSBox HR_9.out rfl rfl (show 11 + 1≤17 by decide) rfl ?_;intro Wa hp
       have HR_a:=pA hp
       have HK_a:=pO hp HK_9
       have HL_a:=pL hp HR_9 HL_9 noKern
       have HM_a:=pL hp HR_9 HM_9 noKern
       have HB_a:=hU (Below.put HB_9.out hp hwb6)
       clear hp HR_9 HK_9 HL_9 HM_9 HB_9)
     |(refine wpList_load (t:=43) (v:=.agg (kcells {y6 with bx:=.slice xa bs.length xc} k)) rfl rfl rfl (run_load_whole aggKern HR_a.out rfl) ?_;clear HR_a)
     |(refine wpList_load (t:=43) (v:=.agg (kcells yk k)) rfl rfl rfl (run_load_whole aggKern HK_a.out rfl) ?_;clear HK_a)
     |go_values|go_skip|go_guarded|(with_reducible refine Way.go ?_)|go_step|go_upon)
    have hq:=HM_a.out
    have hz:=HL_a.out
    have hx:LayAt Wa {y6 with bx:=.slice xa bs.length xc} bs k:=⟨hq.p,hq.t,hq.s,hq.pi,hq.h,hq.im,hq.ou,hq.ins_,by rw [← HXA.out];exact hz.bx,hz.bse,hz.ok,hq.tr,hq.se⟩
    have e5:=ESKern (.agg (kcells {y6 with bx:=.slice xa bs.length xc} k)) (.agg (kcells yk k)) k Wa ⟨_,bs,rfl,hx⟩ ⟨yk,bs,rfl,hz⟩
    refine e5.mono ?_
    rintro er Wc ⟨rfl,hb⟩
    have HB_c:=hU (HB_a.out.trans (hb.mono HB_a.out.size))
    clear hb
    dsimp only
    repeat' (first|go_values|go_skip|go_guarded|(with_reducible refine Way.go ?_)|go_step|go_upon)
    go_ret
    exact gives_of rfl HB_c.out
end Kn
end Go.Proofs.YtalapfkfdhpomaaGreatDoor
namespace Go.Proofs.YtalapfkfdhpomaaGreatDoor
open Go.RowKit KR RegT3
open Go.ChangeShapes Go.WideShapes Go.ChangeAt Go.RowKit Go.Joins Go.Deep
namespace Kn
section
variable {H:Type} {enc:TypeId × Value→H} {w:World} {base b:Nat} {sp:Nat→Bool} {hd:Bool} {r:Reach}
theorem cells_pin:Tryz.prog.cellsOf 80=9:=by kernel_rfl
set_option maxRecDepth 100000 in
theorem open_pin {v:Value} {d:DataW H} {p:List MemPlace} (hv:Value.okWide Tryz.prog w r base 80 v) (h:DataW.Trod enc Tryz.prog w b sp hd 80 v d p):
 ∃ g iv ov nv lv l pn body at_,v=.agg (bcells g iv ov nv lv pn body at_)∧Rd 1 strCells w iv g.images∧Rd 5 Chan.cells w ov g.outs∧Rd 5 Chan.cells w nv g.ins_∧Rd 4 Deed.cells w lv l∧0≤g.now∧g.now≤18446744073709551615∧ -9223372036854775808≤g.mem∧g.mem≤9223372036854775807∧∀ a ∈ l,a.body.size ∈ d.weights Tryz.prog 80:=by
 obtain ⟨cs,rfl,hsz⟩:=okWide_struct Tryz.underlying80 hv
 rw [cells_pin] at hsz
 obtain ⟨fuel,hf⟩:=h
 obtain ⟨l0⟩:=cs
 match l0,hsz with
 |[c0,c1,c2,c3,c4,c5,c6,c7,c8],_=>
  obtain ⟨xs,n,_,hx2,_,hlen,hg⟩:=DataW.trod_struct Tryz.underlying80 hf
  have e0:=hg 0 _ rfl
  have e1:=hg 1 _ rfl
  have e2:=hg 2 _ rfl
  have e3:=hg 3 _ rfl
  have e4:=hg 4 _ rfl
  have hx:xs.length=5:=hlen
  rw [List.getElem?_eq_getElem (by omega)] at e0 e1 e2 e3 e4
  simp only [cells_guest,cells_deeds,cells_int,Value.cells,cells_str,cells_u64] at e0 e1 e2 e3 e4
  have e0':DataW.trod enc Tryz.prog w b sp hd n 26 [c0,c1,c2,c3,c4]=some xs[0]:=e0
  have e1':DataW.trod enc Tryz.prog w b sp hd n 27 [c5]=some xs[1]:=e1
  obtain ⟨zs,m,_,_,_,hzl,hz⟩:=DataW.trod_struct Tryz.underlying26 e0'
  have hzx:zs.length=5:=hzl
  have g0:DataW.trod enc Tryz.prog w b sp hd m 3 (([c0,c1,c2,c3,c4].drop 0).take (Tryz.prog.cellsOf 3))=zs[0]? :=hz 0 _ rfl
  rw [List.getElem?_eq_getElem (by omega),cells_int] at g0
  have g1:DataW.trod enc Tryz.prog w b sp hd m 22 (([c0,c1,c2,c3,c4].drop 1).take (Tryz.prog.cellsOf 22))=zs[1]? :=hz 1 _ rfl
  rw [List.getElem?_eq_getElem (by omega),cells_strs] at g1
  have g2:DataW.trod enc Tryz.prog w b sp hd m 23 (([c0,c1,c2,c3,c4].drop 2).take (Tryz.prog.cellsOf 23))=zs[2]? :=hz 2 _ rfl
  rw [List.getElem?_eq_getElem (by omega),cells_chans] at g2
  have g3:DataW.trod enc Tryz.prog w b sp hd m 23 (([c0,c1,c2,c3,c4].drop 3).take (Tryz.prog.cellsOf 23))=zs[3]? :=hz 3 _ rfl
  rw [List.getElem?_eq_getElem (by omega),cells_chans] at g3
  have g4:DataW.trod enc Tryz.prog w b sp hd m 24 (([c0,c1,c2,c3,c4].drop 4).take (Tryz.prog.cellsOf 24))=zs[4]? :=hz 4 _ rfl
  rw [List.getElem?_eq_getElem (by omega),cells_u64] at g4
  obtain ⟨mm,rfl,m0,m1⟩:=open_int' g0
  obtain ⟨iv,im,hi,hi2⟩:=open_strs g1
  obtain ⟨ov,ou,ho,ho2⟩:=open_chans g2
  obtain ⟨nv,ni,hn,hn2⟩:=open_chans g3
  obtain ⟨nw,rfl,n0,n1⟩:=open_u64' g4
  obtain rfl:c1=iv:=by injection hi
  obtain rfl:c2=ov:=by injection ho
  obtain rfl:c3=nv:=by injection hn
  obtain ⟨lv,l,hl1,hl2,hl3⟩:=open_deeds e1'
  obtain rfl:c5=lv:=by injection hl1
  obtain ⟨pn,rfl,_⟩:=open_int' e2
  obtain ⟨body,rfl,_⟩:=open_str' e3
  obtain ⟨at_,rfl,_⟩:=open_u64' e4
  refine ⟨⟨mm,im,ou,ni,nw⟩,c1,c2,c3,c5,l,pn,body,at_,rfl,hi2,ho2,hn2,hl2,n0,n1,m0,m1,fun a ha=> ?_⟩
  obtain rfl:=(Prod.mk.inj hx2).1
  unfold DataW.weights
  rw [Tryz.underlying80]
  dsimp only
  refine DataW.weights_mem_each (j:=1) (t:=27) (d:=xs[1].1) (by rfl) ?_ _ (hl3 a ha)
  rw [List.getElem?_map,List.getElem?_eq_getElem (by omega)]
  rfl
set_option maxRecDepth 100000 in
theorem script_of {T:TypeId} {ts:List TypeId} {ds:List (DataW H)} {j:Nat} {d:DataW H} {l:List Deed} (hr:(DataW.weightsEach Tryz.prog ts ds).all (· ≤reachBytes)=true) (ht:ts[j]? =some T) (hd:ds[j]? =some d)
 (h:∀ a ∈ l,a.body.size ∈ d.weights Tryz.prog T):SmallDeeds l:=fun a ha=> by
 have h1:=List.all_eq_true.1 hr _ (DataW.weights_mem_each ht hd _ (h a ha))
 have h2:a.body.size≤reachBytes:=by simpa using h1
 unfold reachBytes at h2
 omega
end
end Kn
end Go.Proofs.YtalapfkfdhpomaaGreatDoor
namespace Go.Proofs.YtalapfkfdhpomaaGreatDoor.lawKernBlind
open Go.ChangeShapes Go.WideShapes Go.ChangeAt Go.RowKit
set_option maxRecDepth 100000 in
theorem contract (H:Type) (enc:TypeId × Value→H) (W:World) (base:Nat) (args:Array Value) (ds gs:List (DataW H)) (before:List MemPlace)
 (hval:∀ (j:Nat) t v,Tryz.f10.params[j]? =some t→args[j]? =some v→Value.okWide Tryz.prog W .any base t v)
 (hW:DataW.Whole enc Tryz.prog Tryz.f10.params.toList Rows.kernBlindSpec.vars false W args.toList ds gs before) (hL:laidMetH Tryz.prog Rows.kernBlindRow.laid W)
 (hr:(DataW.weightsEach Tryz.prog (Tryz.f10.params.toList ++ (OpenSpec.ofChange Rows.kernBlindSpec).bare.plain.varTypes Tryz.prog) (ds ++ gs)).all (· ≤reachBytes)=true):
 Calls Tryz.prog 10 args W fun e W'=> ∃ v,e=.returned v∧Rows.kernBlindSpec.post enc Tryz.prog Tryz.f10 false true false false W args v W':=by
 have hW':=hW
 obtain ⟨p,q,hA0,hV,rfl,hfz,hnd⟩:=hW
 have hA:DataW.TrodAll enc Tryz.prog W 0 (fun _=> true) true Tryz.f10.params.toList args.toList ds p:=hA0
 rw [Tryz.params10] at hA hval
 obtain ⟨v0,d0,rfl,rfl,h0⟩:=trodAll_one hA
 obtain ⟨rfl,rfl⟩:=trodVars_none hV
 obtain ⟨g,iv,ov,nv,v1,l,pn,body,at_,rfl,hi,ho,hn,hl,n0,n1,m0,m1,hwl⟩:=Kn.open_pin (hval 0 80 v0 rfl rfl) h0
 have hs:=Kn.script_of (j:=0) hr (by kernel_rfl) rfl hwl
 refine (Kn.LBlind g iv ov nv v1 l pn body at_ W hi ho hn hl n0 n1 m0 m1 hs (tab_of hL)).mono fun e W' ⟨he,hb⟩=> ?_
 subst he
 exact ⟨_,rfl,law_post (tb:=4) hW' rfl rfl rfl rfl (by kernel_rfl) Tryz.underlying4 laid_outB (by rw [Tryz.params10];decide +kernel) hb⟩
abbrev zeros:Array Value:=#[.agg #[.int .i64 0,.slice none 0 0,.slice none 0 0,.slice none 0 0,.int .u64 0,.slice none 0 0,.int .i64 0,.string ByteArray.empty,.int .u64 0]]
theorem laid_met (os:Os):laidMet Tryz.prog Rows.kernBlindRow.laid ((laidWorld os).forCall (fun _ _=> 0) ⟨#[],zeros,[]⟩).memory:=
 laidMet_of_run' 8 (by kernel_rfl) (by kernel_rfl)
theorem reads (os:Os) {H:Type} (enc:TypeId × Value→H):∃ places,DataW.whole enc Tryz.prog ((laidWorld os).forCall (fun _ _=> 0) ⟨#[],zeros,[]⟩).memory Tryz.f10.params.toList Rows.kernBlindSpec.vars false zeros.toList 8=some ([.agg [.agg [.lit (.int .i64 0),.nil,.nil,.nil,.lit (.int .u64 0)],.nil,.lit (.int .i64 0),.lit (.string []),.lit (.int .u64 0)]],[],places):=
 ⟨[],by kernel_rfl⟩
set_option maxRecDepth 100000 in
theorem lifted (os:Os) (started:os.Started) (H:Type) (enc:TypeId × Value→H) (F:Stop.Interp):
 ReturnsInHanded {} Tryz.checked os 10 .any ((OpenSpec.ofChange Rows.kernBlindSpec).preRow enc Tryz.prog Tryz.f10 Rows.kernBlindRow.domain false Rows.kernBlindRow.laid) (((OpenSpec.ofChange Rows.kernBlindSpec).at F).post enc Tryz.prog Tryz.f10 false true false false):=by
 obtain ⟨places,hx⟩:=reads os enc
 refine returnsInHanded_of_row (C:=Tryz.checked) (s:=OpenSpec.ofChange Rows.kernBlindSpec) own started (by kernel_rfl) Tryz.func10
  (witness_row_at (enc:=enc) (C:=Tryz.checked) false (laidWorld os) zeros rfl (by kernel_rfl) (by kernel_rfl) (by kernel_rfl)
    (OpenSpec.preRow_of_cond 8 hx (by kernel_rfl) (fun k hk=> by cases hk) (by kernel_rfl) (laid_met os))) ?_
 intro W base args ds gs before hval hW _ hcond hr hL _ _
 exact contract H enc W base args ds gs before hval hW hL hr
theorem said:Rows.KernBlindSaid:=
 OpenClaim.holds_of_cond 10 Tryz.f10 rfl rfl rfl rfl rfl rfl rfl ⟨rfl,rfl,rfl,rfl,rfl⟩ rfl rfl rfl rfl rfl (by kernel_rfl) Tryz.func10 (by kernel_rfl)
  (of_decide_eq_true (by kernel_rfl)) (by unfold Func.isWrapper;first|(rw [if_pos (by decide +kernel)];kernel_rfl)|(rw [if_neg (by decide +kernel)];exact ⟨rfl,rfl⟩))
  (fun os started H enc _ F=> by rw [OpenClaim.pre_eq_preRow];exact lifted os started H enc F)
theorem plain (f:FuncId) (fn:Func) (hf:Tryz.pinned.checked.prog.funcNamed "transom/transomlaw13.KernBlind" =some f) (hfn:Tryz.pinned.checked.prog.funcs[f]? =some fn):
 false=Tryz.pinned.checked.prog.looks []∧∀ (j:Nat) t,fn.params[j]? =some t→Tryz.pinned.checked.prog.wantsStandIn t=false:=by
 obtain rfl:f=10:=Option.some.inj ((show Tryz.prog.funcNamed "transom/transomlaw13.KernBlind" =some 10 by kernel_rfl).symm.trans hf)|>.symm
 obtain rfl:fn=Tryz.f10:=(Option.some.inj (Tryz.func10.symm.trans hfn)).symm
 refine ⟨looks_off,fun j t ht=> ?_⟩
 have hm:=Array.mem_of_getElem? ht
 rw [Tryz.params10] at hm
 have hall:∀ t ∈ (#[80]:Array TypeId),Tryz.prog.wantsStandIn t=false:=by decide +kernel
 exact hall t hm
theorem card:Rows.KernBlindCardSaid:=
 Claim7.holds_tied_plain_at .later [] _ _ _ _ said (fun _ h=> by cases h) (by kernel_rfl) (fun _ h=> by cases h) kernBlind_row_tie rfl ⟨rfl,rfl⟩ (by kernel_rfl) rfl plain (by kernel_rfl)
#print axioms card
end Go.Proofs.YtalapfkfdhpomaaGreatDoor.lawKernBlind
