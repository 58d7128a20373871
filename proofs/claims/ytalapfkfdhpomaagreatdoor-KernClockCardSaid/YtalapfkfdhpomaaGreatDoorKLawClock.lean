/- The law KernClock: it answers true. Conditions: rows that there can be; the table of the instructions' parts lies there. -/
import Derived.Test.YtalapfkfdhpomaaGreatDoorGLaw
set_option linter.unusedVariables false
set_option linter.unusedSimpArgs false
namespace Go.Proofs.YtalapfkfdhpomaaGreatDoor
open Go.RowKit KR RegT3
namespace Kn
/-- the cycles of the first acts -/
def ClockR (W:World) (l:List Deed) (cv iv:Value) (wr:World):Prop:=∃ i:Nat,i≤l.length∧i≤30∧iv=.int .i64 i∧cv=.int .u64 (clks (l.take i))∧wr=W
set_option maxRecDepth 100000 in
set_option maxHeartbeats 4000000 in
theorem LClock (g:Guest) (iv ov nv lv:Value) (l:List Deed) (w:World) (hi:Rd 1 strCells w iv g.images) (ho:Rd 5 Chan.cells w ov g.outs) (hn:Rd 5 Chan.cells w nv g.ins_) (hl:SlDeed w lv l) (n0:0≤g.now) (n1:g.now≤18446744073709551615) (m0: -9223372036854775808≤g.mem) (m1:g.mem≤9223372036854775807) (hs:SmallDeeds l) (hT:Tab w):
 Calls Tryz.prog 3 #[.agg (gcells g iv ov nv),lv] w (Gives (.bool true) w):=by
 have HT:=Lib.hid (fun W (h:Below w.heap.size w W)=> hT.below h)
 have HI:=Lib.hid (fun W (h:Below w.heap.size w W)=> hi.below h)
 have HO:=Lib.hid (fun W (h:Below w.heap.size w W)=> ho.below h)
 have HN:=Lib.hid (fun W (h:Below w.heap.size w W)=> hn.below h)
 have HD:=Lib.hid (fun W (h:Below w.heap.size w W)=> hl.below h)
 clear hi ho hn hl hT
 obtain ⟨W0,hW0,hb0,HQ_0⟩:=nb1 (W:=w) (.cells (gcells g iv ov nv) 26) rfl
 have HB_0:=Lib.hid hb0
 have hzQ:=hlt HQ_0.out
 clear hb0
 go_enter Tryz.func3,Tryz.ntmps3
 repeat' (first|(rw [hW0];clear hW0)|go_values|go_skip|go_guarded|(with_reducible first|refine Way.go ?_|refine wayO ?_)|go_step|go_upon)
 refine (LShown _ (HT.out _ HB_0.out)).mono ?_
 rintro er W1 ⟨rfl,hb⟩
 have HQ_1:=nB hb HQ_0
 have HB_1:=Lib.hid (HB_0.out.trans (hb.mono HB_0.out.size))
 clear hb HQ_0 HB_0
 dsimp only
 repeat' (first|(refine wpList_load (t:=26) (v:=.agg (gcells g iv ov nv)) rfl rfl rfl (run_load_whole aggGuest HQ_1.out rfl) ?_)|go_values|go_skip|go_guarded|(with_reducible first|refine Way.go ?_|refine wayO ?_)|go_step|go_upon)
 refine (LFew g iv ov nv _ (HI.out _ HB_1.out) (HO.out _ HB_1.out) (HN.out _ HB_1.out)).mono ?_
 rintro er W2 ⟨rfl,hb⟩
 have HQ_2:=nB hb HQ_1
 have HB_2:=Lib.hid (HB_1.out.trans (hb.mono HB_1.out.size))
 clear hb HQ_1 HB_1
 dsimp only
 cases hfew:fewB g
 · repeat' (first|go_values|go_skip|go_guarded|(with_reducible first|refine Way.go ?_|refine wayO ?_)|go_step|go_upon)
   go_ret
   exact gives_of rfl HB_2.out
 have HG:=Lib.hid (few_ok hfew n0 n1 m0 m1)
 clear hfew
 have kq4:W2.cell? ⟨w.heap.size,4,none⟩=some (.int .u64 g.now):=hcell HQ_2.out 4
 have hgt:decide (4611686018427387904<g.now)=decide (4611686018427387904<g.now):=rfl
 by_cases hbig:4611686018427387904<g.now
 · rw [decide_eq_true hbig] at hgt
   repeat' (first|go_values|go_skip|go_guarded|(with_reducible first|refine Way.go ?_|refine wayO ?_)|go_step|go_upon)
   go_ret
   exact gives_of rfl HB_2.out
 rw [decide_eq_false hbig] at hgt
 repeat' (first|(refine wpList_load (t:=26) (v:=.agg (gcells g iv ov nv)) rfl rfl rfl (run_load_whole aggGuest HQ_2.out rfl) ?_)|go_values|go_skip|go_guarded|(with_reducible first|refine Way.go ?_|refine wayO ?_)|go_step|go_upon)
 refine (SPlays g iv ov nv lv l _ (HI.out _ HB_2.out) (HO.out _ HB_2.out) (HN.out _ HB_2.out) (HD.out _ HB_2.out) HG.out hs (HT.out _ HB_2.out)).mono ?_
 rintro er W3 ⟨v3,rfl,⟨yk,bs,rfl,hl3⟩,hb⟩
 have HQ_3:=nB hb HQ_2
 have HB_3:=Lib.hid (HB_2.out.trans (hb.mono HB_2.out.size))
 have HL_3:=Lib.hid hl3
 have hz3:=hlt HQ_3.out
 clear hb HQ_2 HB_2 hl3
 dsimp only
 obtain ⟨k,hk⟩:∃ k,plays g l=k:=⟨_,rfl⟩
 have HGD:Hid (Good 1800 k):=Lib.hid (by rw [← hk];exact plays_good HG.out hs)
 rw [hk] at HL_3 ⊢
 have HKP:=Lib.hid hk
 clear hk
 obtain ⟨b,hab,hbb⟩:∃ b,W3.heap.size=b∧w.heap.size<b:=⟨_,rfl,hz3⟩
 obtain ⟨W4,hW4,hb4,HK_4⟩:=nb1 (.cells #[.slice none 0 0,.slice none 0 0,.int .i64 0,.slice none 0 0,.slice none 0 0,.int .i64 0,.slice none 0 0,.int .u64 0,.slice none 0 0,.slice none 0 0,.slice none 0 0,.slice none 0 0,.string ⟨#[]⟩,.slice none 0 0,.slice none 0 0,.int .i64 0,.int .i64 0] 43) hab
 have HB_4:=Lib.hid (HB_3.out.trans (hb4.mono HB_3.out.size))
 have HQ_4:=nB hb4 HQ_3
 have HL_4:=nL hb4 HL_3
 clear hb4 HB_3 HQ_3 HL_3
 have HON:=Lib.hid (onesK HL_4.out)
 repeat' (first
  |(rw [hW4,hab];clear hW4)
  |(refine wpList_store (t:=43) (v:=.agg (kcells yk k)) (off:=0) (new:=kcells yk k) rfl rfl rfl rfl aggKern.size HK_4.out rfl (show 0 + 17≤17 by decide) HON.out rfl ?_;intro W5 hp
    have HK_5:=pA hp
    have HQ_5:=pO hp HQ_4
    have HE_5:Hid (KR.Kept b w W5):=pK hp (Lib.hid (Kept.of HB_4.out))
    have HL_5:=pL hp HK_4 HL_4 noKern
    clear hp HK_4 HQ_4 HB_4 HL_4)
  |go_values|go_skip|go_guarded|(with_reducible first|refine Way.go ?_|refine wayO ?_)|go_step|go_upon)
 clear hab hz3 HON
 clear kq4 hgt
 have HNOW:Hid (k.now=g.now + clks (l.take 30)):=Lib.hid (by rw [← HKP.out];exact deeds_now HG.out hs (by omega) 30 (Nat.le_refl _))
 obtain ⟨la,lc,rfl,hlc,hlm⟩:=(HD.out W5 (Kept.low HE_5.out (by omega))).shape
 have HLV:=Lib.hid (HD.out W5 (Kept.low HE_5.out (by omega))).elem.2.2.2
 go_loopw [8,9] (fun cv iv wr=> ClockR W5 l cv iv wr) (fun _ iv _=> l.length - (intOf iv).toNat)
 case atStart=> exact ⟨0,Nat.zero_le _,Nat.zero_le _,rfl,rfl,rfl⟩
 case round=>
  obtain ⟨i,hi,h30,rfl,rfl,rfl⟩:=hrel
  have hc1:decide ((i:Int)<(l.length:Int))=decide (i<l.length):=by simp
  have hc2:decide ((i:Int)<30)=decide (i<30):=by simp;omega
  have hcl:=clks_le l i
  by_cases hil:i<l.length∧i<30
  · obtain ⟨hi1,hi2⟩:=hil
    rw [decide_eq_true hi1] at hc1
    rw [decide_eq_true hi2] at hc2
    obtain ⟨a,hx⟩:∃ a,l[i]? =some a:=⟨_,List.getElem?_eq_getElem hi1⟩
    obtain ⟨gb,off,hla,hgb,hcell0⟩:=HLV.out i a hx
    subst hla
    have htk:=clks_take hx
    have hca:=clk_le a
    have HTK:=Lib.hid htk
    clear hx htk HLV
    have c0:wr.cell? ⟨gb,off + i * 4,none⟩=some (.int .i64 a.kind):=hcell0 _ (Below.refl _ _) 0 _ rfl
    have c1:wr.cell? ⟨gb,off + i * 4 + 1,none⟩=some (.int .i64 a.n):=hcell0 _ (Below.refl _ _) 1 _ rfl
    have hj1:(i:Int)<(l.length:Int):=by omega
    have hj0:(0:Int)≤(i:Int):=by omega
    clear hcell0
    by_cases h1:a.kind=1
    · have k1:(a.kind==1)=true:=by simp [h1]
      by_cases hp:0<a.n
      · have kp:decide (0<a.n)=true:=by simp [hp]
        have hst:0<steps a.n∧steps a.n≤60:=by unfold steps;split <;> omega
        have hck:((clk a:Nat):Int)=steps a.n:=by unfold clk;rw [if_pos h1];omega
        have hw1:IntKind.u64.wrap (steps a.n)=steps a.n:=by rw [IntKind.wrap_u64];omega
        have hw2:IntKind.u64.wrap ((clks (l.take i):Nat) + steps a.n:Int)=(clks (l.take i):Nat) + steps a.n:=by rw [IntKind.wrap_u64];omega
        repeat' (first|go_values|go_skip|go_guarded|(with_reducible first|refine Way.go ?_|refine wayO ?_)|go_step|go_upon)
        refine (LSteps a.n _).mono ?_
        rintro er Wx ⟨rfl,rfl⟩
        dsimp only
        repeat' (first|go_values|go_skip|go_guarded|(with_reducible first|refine Way.go ?_|refine wayO ?_)|go_step|go_upon)
        exact ⟨⟨i + 1,by omega,by omega,by go_num,by rw [HTK.out,Int.natCast_add,hck],rfl⟩,by simp [intOf];omega⟩
      · have kp:decide (0<a.n)=false:=by simp;omega
        have hck:clk a=0:=by unfold clk;rw [if_pos h1];unfold steps;split <;> omega
        repeat' (first|go_values|go_skip|go_guarded|(with_reducible first|refine Way.go ?_|refine wayO ?_)|go_step|go_upon)
        exact ⟨⟨i + 1,by omega,by omega,by go_num,by rw [HTK.out,hck,Nat.add_zero],rfl⟩,by simp [intOf];omega⟩
    · have k1:(a.kind==1)=false:=by simpa using h1
      have hck:clk a=0:=by unfold clk;rw [if_neg h1]
      repeat' (first|go_values|go_skip|go_guarded|(with_reducible first|refine Way.go ?_|refine wayO ?_)|go_step|go_upon)
      exact ⟨⟨i + 1,by omega,by omega,by go_num,by rw [HTK.out,hck,Nat.add_zero],rfl⟩,by simp [intOf];omega⟩
  · have hte:=plays_stop hi h30 hil
    have kq4:wr.cell? ⟨w.heap.size,4,none⟩=some (.int .u64 g.now):=hcell HQ_5.out 4
    have kn:wr.cell? ⟨b,7,none⟩=some (.int .u64 k.now):=hcell HK_5.out 7
    have hnow:=HNOW.out
    have hw3:IntKind.u64.wrap (g.now + (clks (l.take 30):Nat))=g.now + (clks (l.take 30):Nat):=by have:=clks_le l 30;rw [IntKind.wrap_u64];omega
    by_cases hi1:i<l.length
    · rw [decide_eq_true hi1] at hc1
      rw [decide_eq_false (by omega)] at hc2
      repeat' (first|go_values|go_skip|go_guarded|(with_reducible first|refine Way.go ?_|refine wayO ?_)|go_step|go_upon)
      go_ret
      exact gives_of (by simp [hnow,hte,hw3]) (Kept.low HE_5.out (by omega))
    · rw [decide_eq_false hi1] at hc1
      clear hc2
      repeat' (first|go_values|go_skip|go_guarded|(with_reducible first|refine Way.go ?_|refine wayO ?_)|go_step|go_upon)
      go_ret
      exact gives_of (by simp [hnow,hte,hw3]) (Kept.low HE_5.out (by omega))
end Kn
end Go.Proofs.YtalapfkfdhpomaaGreatDoor
