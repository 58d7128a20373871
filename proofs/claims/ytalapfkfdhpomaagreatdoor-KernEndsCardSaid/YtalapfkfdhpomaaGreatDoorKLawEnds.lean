/- The law KernEnds: it answers true. Conditions: rows that there can be; the table of the instructions' parts lies there. -/
import Derived.Test.YtalapfkfdhpomaaGreatDoorGLaw
set_option linter.unusedVariables false
set_option linter.unusedSimpArgs false
namespace Go.Proofs.YtalapfkfdhpomaaGreatDoor
open Go.RowKit KR RegT3
namespace Kn
/-- the first pipes are right -/
def EndsR (W:World) (n:Nat) (iv:Value) (wr:World):Prop:=∃ i:Nat,i≤n∧iv=.int .i64 i∧wr=W
/-- the ends that the first ones have -/
def EndsR2 (W:World) (l:List Proc) (n:Int) (rv wv jv:Value) (wr:World):Prop:=∃ j:Nat,j≤l.length∧jv=.int .i64 j∧rv=.int .i64 (cnt (l.take j) n false)∧wv=.int .i64 (cnt (l.take j) n true)∧wr=W
def EndsR3 (W:World) (a b:Int) (p:Proc) (n:Int) (rv wv fv:Value) (wr:World):Prop:=∃ f:Nat,f≤4∧fv=.int .i64 f∧rv=.int .i64 (a + fdsTo p n false f)∧wv=.int .i64 (b + fdsTo p n true f)∧wr=W
set_option maxRecDepth 100000 in
set_option maxHeartbeats 4000000 in
theorem LEnds (g:Guest) (iv ov nv lv:Value) (l:List Deed) (w:World) (hi:Rd 1 strCells w iv g.images) (ho:Rd 5 Chan.cells w ov g.outs) (hn:Rd 5 Chan.cells w nv g.ins_) (hl:SlDeed w lv l) (n0:0≤g.now) (n1:g.now≤18446744073709551615) (m0: -9223372036854775808≤g.mem) (m1:g.mem≤9223372036854775807) (hs:SmallDeeds l) (hT:Tab w):
 Calls Tryz.prog 5 #[.agg (gcells g iv ov nv),lv] w (Gives (.bool true) w):=by
 have HT:=Lib.hid (fun W (h:Below w.heap.size w W)=> hT.below h)
 have HI:=Lib.hid (fun W (h:Below w.heap.size w W)=> hi.below h)
 have HO:=Lib.hid (fun W (h:Below w.heap.size w W)=> ho.below h)
 have HN:=Lib.hid (fun W (h:Below w.heap.size w W)=> hn.below h)
 have HD:=Lib.hid (fun W (h:Below w.heap.size w W)=> hl.below h)
 clear hi ho hn hl hT
 obtain ⟨W0,hW0,hb0,HQ_0⟩:=nb1 (W:=w) (.cells (gcells g iv ov nv) 26) rfl
 have HB_0:=Lib.hid hb0
 have hzQ:=hlt HQ_0.out
 clear hb0
 go_enter Tryz.func5,Tryz.ntmps5
 repeat' (first|(rw [hW0];clear hW0)|go_values|go_skip|go_guarded|(with_reducible first|refine Way.go ?_|refine wayO ?_)|go_step|go_upon)
 refine (LShown _ (HT.out _ HB_0.out)).mono ?_
 rintro er W1 ⟨rfl,hb⟩
 have HQ_1:=nB hb HQ_0
 have HB_1:=Lib.hid (HB_0.out.trans (hb.mono HB_0.out.size))
 clear hb HQ_0 HB_0
 dsimp only
 repeat' (first|(refine wpList_load (t:=26) (v:=.agg (gcells g iv ov nv)) rfl rfl rfl (run_load_whole aggGuest HQ_1.out rfl) ?_)|go_values|go_skip|go_guarded|(with_reducible first|refine Way.go ?_|refine wayO ?_)|go_step|go_upon)
 refine (LFew g iv ov nv _ (HI.out _ HB_1.out) (HO.out _ HB_1.out) (HN.out _ HB_1.out)).mono ?_
 rintro er W2 ⟨rfl,hb⟩
 have HQ_2:=nB hb HQ_1
 have HB_2:=Lib.hid (HB_1.out.trans (hb.mono HB_1.out.size))
 clear hb HQ_1 HB_1
 dsimp only
 cases hfew:fewB g
 · repeat' (first|go_values|go_skip|go_guarded|(with_reducible first|refine Way.go ?_|refine wayO ?_)|go_step|go_upon)
   go_ret
   exact gives_of rfl HB_2.out
 have HG:=Lib.hid (few_ok hfew n0 n1 m0 m1)
 clear hfew
 repeat' (first|(refine wpList_load (t:=26) (v:=.agg (gcells g iv ov nv)) rfl rfl rfl (run_load_whole aggGuest HQ_2.out rfl) ?_)|go_values|go_skip|go_guarded|(with_reducible first|refine Way.go ?_|refine wayO ?_)|go_step|go_upon)
 refine (SPlays g iv ov nv lv l _ (HI.out _ HB_2.out) (HO.out _ HB_2.out) (HN.out _ HB_2.out) (HD.out _ HB_2.out) HG.out hs (HT.out _ HB_2.out)).mono ?_
 rintro er W3 ⟨v3,rfl,⟨yk,bs,rfl,hl3⟩,hb⟩
 have HQ_3:=nB hb HQ_2
 have HB_3:=Lib.hid (HB_2.out.trans (hb.mono HB_2.out.size))
 have HL_3:=Lib.hid hl3
 have hz3:=hlt HQ_3.out
 clear hb HQ_2 HB_2 hl3
 dsimp only
 obtain ⟨k,hk⟩:∃ k,plays g l=k:=⟨_,rfl⟩
 have HGD:Hid (Good 1800 k):=Lib.hid (by rw [← hk];exact plays_good HG.out hs)
 rw [hk] at HL_3 ⊢
 have HKP:=Lib.hid hk
 clear hk
 obtain ⟨b,hab,hbb⟩:∃ b,W3.heap.size=b∧w.heap.size<b:=⟨_,rfl,hz3⟩
 obtain ⟨W4,hW4,hb4,HK_4⟩:=nb1 (.cells #[.slice none 0 0,.slice none 0 0,.int .i64 0,.slice none 0 0,.slice none 0 0,.int .i64 0,.slice none 0 0,.int .u64 0,.slice none 0 0,.slice none 0 0,.slice none 0 0,.slice none 0 0,.string ⟨#[]⟩,.slice none 0 0,.slice none 0 0,.int .i64 0,.int .i64 0] 43) hab
 have HB_4:=Lib.hid (HB_3.out.trans (hb4.mono HB_3.out.size))
 have HQ_4:=nB hb4 HQ_3
 have HL_4:=nL hb4 HL_3
 clear hb4 HB_3 HQ_3 HL_3
 have HON:=Lib.hid (onesK HL_4.out)
 repeat' (first
  |(rw [hW4,hab];clear hW4)
  |(refine wpList_store (t:=43) (v:=.agg (kcells yk k)) (off:=0) (new:=kcells yk k) rfl rfl rfl rfl aggKern.size HK_4.out rfl (show 0 + 17≤17 by decide) HON.out rfl ?_;intro W5 hp
    have HK_5:=pA hp
    have HQ_5:=pO hp HQ_4
    have HE_5:Hid (KR.Kept b w W5):=pK hp (Lib.hid (Kept.of HB_4.out))
    have HL_5:=pL hp HK_4 HL_4 noKern
    clear hp HK_4 HQ_4 HB_4 HL_4)
  |go_values|go_skip|go_guarded|(with_reducible first|refine Way.go ?_|refine wayO ?_)|go_step|go_upon)
 clear hab hz3 HON
 have hpo:=Lib.hid HGD.out.inv.po
 have hmn:k.p.length≤6:=HGD.out.inv.n6
 have hp4:k.pipes.length≤4:=hpo.out.n
 obtain ⟨pa,pc,hpa,_,_⟩:=HL_5.out.p.shape
 obtain ⟨qa,qc,hqa,_,_⟩:=HL_5.out.pi.shape
 have hpe:=HL_5.out.p
 have hqe:=HL_5.out.pi
 rw [hpa] at hpe
 rw [hqa] at hqe
 have HEL:=Lib.hid hpe.elem.2.2.2
 have HQL:=Lib.hid hqe.elem.2.2.2
 have k0:W5.cell? ⟨b,0,none⟩=some (.slice pa k.p.length pc):=(hcell HK_5.out 0).trans (congrArg some hpa)
 have k4:W5.cell? ⟨b,4,none⟩=some (.slice qa k.pipes.length qc):=(hcell HK_5.out 4).trans (congrArg some hqa)
 clear hpa hpe hqa hqe HQ_5 HL_5
 have HBE:=Lib.hid (Kept.low HE_5.out (by omega))
 repeat' (first|go_values|go_skip|go_guarded|(with_reducible first|refine Way.go ?_|refine wayO ?_)|go_step|go_upon)
 go_loopw [8] (fun iv wr=> EndsR W5 k.pipes.length iv wr) (fun iv _=> k.pipes.length - (intOf iv).toNat)
 case atStart=> exact ⟨0,Nat.zero_le _,rfl,rfl⟩
 case round=>
  obtain ⟨i,hi,rfl,rfl⟩:=hrel
  by_cases hil:i<k.pipes.length
  · obtain ⟨q,hx⟩:∃ q,k.pipes[i]? =some q:=⟨_,List.getElem?_eq_getElem hil⟩
    have HOK:=Lib.hid (hpo.out.ok i q hx)
    obtain ⟨gq,oq,rfl,_,hc⟩:=HQL.out i q hx
    have HC:=Lib.hid (hc wr (Below.refl _ _))
    have hj1:(i:Int)<(k.pipes.length:Int):=by omega
    have hj0:(0:Int)≤(i:Int):=by omega
    have hwi:IntKind.i64.wrap ((i:Int) + 1)=(i:Int) + 1:=by rw [IntKind.wrap_i64];omega
    clear hc hx
    repeat' (first|go_values|go_skip|go_guarded|(with_reducible first|refine Way.go ?_|refine wayO ?_)|go_step|go_upon)
    obtain ⟨wo,rfl⟩:∃ wo:World,wo=wr:=⟨wr,rfl⟩
    go_loopw [9,10,11] (fun rv wv jv wr=> EndsR2 wo k.p ((i:Int) + 1) rv wv jv wr) (fun _ _ jv _=> k.p.length - (intOf jv).toNat)
    case atStart=> exact ⟨0,Nat.zero_le _,rfl,rfl,rfl,rfl⟩
    case round=>
     obtain ⟨j,hj,rfl,rfl,rfl,rfl⟩:=hrel
     have hr0:=cnt_take_range k.p ((i:Int) + 1) false j
     have hw0:=cnt_take_range k.p ((i:Int) + 1) true j
     by_cases hjl:j<k.p.length
     · obtain ⟨p,hx2⟩:∃ p,k.p[j]? =some p:=⟨_,List.getElem?_eq_getElem hjl⟩
       have HR2:=Lib.hid (cnt_take hx2 ((i:Int) + 1) false)
       have HW2:=Lib.hid (cnt_take hx2 ((i:Int) + 1) true)
       obtain ⟨gp,op,rfl,_,hc2⟩:=HEL.out j p hx2
       have HC2:=Lib.hid (hc2 wr (Below.refl _ _))
       have hi1:(j:Int)<(k.p.length:Int):=by omega
       have hi0:(0:Int)≤(j:Int):=by omega
       obtain ⟨ra,hra⟩:∃ ra,cnt (k.p.take j) ((i:Int) + 1) false=ra:=⟨_,rfl⟩
       obtain ⟨wa,hwa⟩:∃ wa,cnt (k.p.take j) ((i:Int) + 1) true=wa:=⟨_,rfl⟩
       rw [hra] at HR2 hr0 ⊢
       rw [hwa] at HW2 hw0 ⊢
       clear hc2 hx2 hra hwa
       repeat' (first|go_values|go_skip|go_guarded|(with_reducible first|refine Way.go ?_|refine wayO ?_)|go_step|go_upon)
       obtain ⟨wp,rfl⟩:∃ wp:World,wp=wr:=⟨wr,rfl⟩
       go_loopw [9,10,12] (fun rv wv fv wr=> EndsR3 wp ra wa p ((i:Int) + 1) rv wv fv wr) (fun _ _ fv _=> 4 - (intOf fv).toNat)
       case atStart=> exact ⟨0,Nat.zero_le _,rfl,by simp [fdsTo],by simp [fdsTo],rfl⟩
       case round=>
        obtain ⟨f,hf,rfl,rfl,rfl,rfl⟩:=hrel
        have hr1:=fdsTo_range p ((i:Int) + 1) false f
        have hw1:=fdsTo_range p ((i:Int) + 1) true f
        rcases (by omega:f=0∨f=1∨f=2∨f=3∨f=4) with rfl|rfl|rfl|rfl|rfl
        · have cd:wr.cell? ⟨gp,op + j * 26 + 14,none⟩=some (.int .i64 p.d0):=HC2.out 14 _ rfl
          have ce:wr.cell? ⟨gp,op + j * 26 + 15,none⟩=some (.bool p.e0):=HC2.out 15 _ rfl
          have HR3:=Lib.hid (show fdsTo p ((i:Int) + 1) false 1=fdsTo p ((i:Int) + 1) false 0 + fdAt p ((i:Int) + 1) false 0 from rfl)
          have HW3:=Lib.hid (show fdsTo p ((i:Int) + 1) true 1=fdsTo p ((i:Int) + 1) true 0 + fdAt p ((i:Int) + 1) true 0 from rfl)
          have HA:=Lib.hid (show ∀ e,fdAt p ((i:Int) + 1) e 0=if p.d0=(i:Int) + 1∧p.e0=e then 1 else 0 from fun _=> rfl)
          obtain ⟨rr,hrr⟩:∃ rr,ra + fdsTo p ((i:Int) + 1) false 0=rr:=⟨_,rfl⟩
          obtain ⟨ww,hww⟩:∃ ww,wa + fdsTo p ((i:Int) + 1) true 0=ww:=⟨_,rfl⟩
          have HRR:=Lib.hid hrr
          have HWW:=Lib.hid hww
          have wr1:IntKind.i64.wrap (rr + 1)=rr + 1:=by rw [IntKind.wrap_i64];omega
          have ww1:IntKind.i64.wrap (ww + 1)=ww + 1:=by rw [IntKind.wrap_i64];omega
          rw [hrr,hww]
          clear hrr hww
          by_cases hd:p.d0=(i:Int) + 1
          · have bd:(p.d0==(i:Int) + 1)=true:=by simp [hd]
            have HDD:=Lib.hid hd
            clear hd
            cases he:p.e0
            · have HEE:=Lib.hid he
              rw [he] at ce
              clear he
              repeat' (first|go_values|go_skip|go_guarded|(with_reducible first|refine Way.go ?_|refine wayO ?_)|go_step|go_upon)
              exact ⟨⟨1,by decide,by go_num,by rw [HR3.out,HA.out,if_pos ⟨HDD.out,HEE.out⟩,← Int.add_assoc,HRR.out],by rw [HW3.out,HA.out,if_neg (by rw [HEE.out];simp),Int.add_zero,HWW.out],rfl⟩,by simp [intOf]⟩
            · have HEE:=Lib.hid he
              rw [he] at ce
              clear he
              repeat' (first|go_values|go_skip|go_guarded|(with_reducible first|refine Way.go ?_|refine wayO ?_)|go_step|go_upon)
              exact ⟨⟨1,by decide,by go_num,by rw [HR3.out,HA.out,if_neg (by rw [HEE.out];simp),Int.add_zero,HRR.out],by rw [HW3.out,HA.out,if_pos ⟨HDD.out,HEE.out⟩,← Int.add_assoc,HWW.out],rfl⟩,by simp [intOf]⟩
          · have bd:(p.d0==(i:Int) + 1)=false:=by simp [hd]
            have HDD:=Lib.hid hd
            clear hd
            repeat' (first|go_values|go_skip|go_guarded|(with_reducible first|refine Way.go ?_|refine wayO ?_)|go_step|go_upon)
            exact ⟨⟨1,by decide,by go_num,by rw [HR3.out,HA.out,if_neg (fun h=> HDD.out h.1),Int.add_zero,HRR.out],by rw [HW3.out,HA.out,if_neg (fun h=> HDD.out h.1),Int.add_zero,HWW.out],rfl⟩,by simp [intOf]⟩
        · have cd:wr.cell? ⟨gp,op + j * 26 + 16,none⟩=some (.int .i64 p.d1):=HC2.out 16 _ rfl
          have ce:wr.cell? ⟨gp,op + j * 26 + 17,none⟩=some (.bool p.e1):=HC2.out 17 _ rfl
          have HR3:=Lib.hid (show fdsTo p ((i:Int) + 1) false 2=fdsTo p ((i:Int) + 1) false 1 + fdAt p ((i:Int) + 1) false 1 from rfl)
          have HW3:=Lib.hid (show fdsTo p ((i:Int) + 1) true 2=fdsTo p ((i:Int) + 1) true 1 + fdAt p ((i:Int) + 1) true 1 from rfl)
          have HA:=Lib.hid (show ∀ e,fdAt p ((i:Int) + 1) e 1=if p.d1=(i:Int) + 1∧p.e1=e then 1 else 0 from fun _=> rfl)
          obtain ⟨rr,hrr⟩:∃ rr,ra + fdsTo p ((i:Int) + 1) false 1=rr:=⟨_,rfl⟩
          obtain ⟨ww,hww⟩:∃ ww,wa + fdsTo p ((i:Int) + 1) true 1=ww:=⟨_,rfl⟩
          have HRR:=Lib.hid hrr
          have HWW:=Lib.hid hww
          have wr1:IntKind.i64.wrap (rr + 1)=rr + 1:=by rw [IntKind.wrap_i64];omega
          have ww1:IntKind.i64.wrap (ww + 1)=ww + 1:=by rw [IntKind.wrap_i64];omega
          rw [hrr,hww]
          clear hrr hww
          by_cases hd:p.d1=(i:Int) + 1
          · have bd:(p.d1==(i:Int) + 1)=true:=by simp [hd]
            have HDD:=Lib.hid hd
            clear hd
            cases he:p.e1
            · have HEE:=Lib.hid he
              rw [he] at ce
              clear he
              repeat' (first|go_values|go_skip|go_guarded|(with_reducible first|refine Way.go ?_|refine wayO ?_)|go_step|go_upon)
              exact ⟨⟨2,by decide,by go_num,by rw [HR3.out,HA.out,if_pos ⟨HDD.out,HEE.out⟩,← Int.add_assoc,HRR.out],by rw [HW3.out,HA.out,if_neg (by rw [HEE.out];simp),Int.add_zero,HWW.out],rfl⟩,by simp [intOf]⟩
            · have HEE:=Lib.hid he
              rw [he] at ce
              clear he
              repeat' (first|go_values|go_skip|go_guarded|(with_reducible first|refine Way.go ?_|refine wayO ?_)|go_step|go_upon)
              exact ⟨⟨2,by decide,by go_num,by rw [HR3.out,HA.out,if_neg (by rw [HEE.out];simp),Int.add_zero,HRR.out],by rw [HW3.out,HA.out,if_pos ⟨HDD.out,HEE.out⟩,← Int.add_assoc,HWW.out],rfl⟩,by simp [intOf]⟩
          · have bd:(p.d1==(i:Int) + 1)=false:=by simp [hd]
            have HDD:=Lib.hid hd
            clear hd
            repeat' (first|go_values|go_skip|go_guarded|(with_reducible first|refine Way.go ?_|refine wayO ?_)|go_step|go_upon)
            exact ⟨⟨2,by decide,by go_num,by rw [HR3.out,HA.out,if_neg (fun h=> HDD.out h.1),Int.add_zero,HRR.out],by rw [HW3.out,HA.out,if_neg (fun h=> HDD.out h.1),Int.add_zero,HWW.out],rfl⟩,by simp [intOf]⟩
        · have cd:wr.cell? ⟨gp,op + j * 26 + 18,none⟩=some (.int .i64 p.d2):=HC2.out 18 _ rfl
          have ce:wr.cell? ⟨gp,op + j * 26 + 19,none⟩=some (.bool p.e2):=HC2.out 19 _ rfl
          have HR3:=Lib.hid (show fdsTo p ((i:Int) + 1) false 3=fdsTo p ((i:Int) + 1) false 2 + fdAt p ((i:Int) + 1) false 2 from rfl)
          have HW3:=Lib.hid (show fdsTo p ((i:Int) + 1) true 3=fdsTo p ((i:Int) + 1) true 2 + fdAt p ((i:Int) + 1) true 2 from rfl)
          have HA:=Lib.hid (show ∀ e,fdAt p ((i:Int) + 1) e 2=if p.d2=(i:Int) + 1∧p.e2=e then 1 else 0 from fun _=> rfl)
          obtain ⟨rr,hrr⟩:∃ rr,ra + fdsTo p ((i:Int) + 1) false 2=rr:=⟨_,rfl⟩
          obtain ⟨ww,hww⟩:∃ ww,wa + fdsTo p ((i:Int) + 1) true 2=ww:=⟨_,rfl⟩
          have HRR:=Lib.hid hrr
          have HWW:=Lib.hid hww
          have wr1:IntKind.i64.wrap (rr + 1)=rr + 1:=by rw [IntKind.wrap_i64];omega
          have ww1:IntKind.i64.wrap (ww + 1)=ww + 1:=by rw [IntKind.wrap_i64];omega
          rw [hrr,hww]
          clear hrr hww
          by_cases hd:p.d2=(i:Int) + 1
          · have bd:(p.d2==(i:Int) + 1)=true:=by simp [hd]
            have HDD:=Lib.hid hd
            clear hd
            cases he:p.e2
            · have HEE:=Lib.hid he
              rw [he] at ce
              clear he
              repeat' (first|go_values|go_skip|go_guarded|(with_reducible first|refine Way.go ?_|refine wayO ?_)|go_step|go_upon)
              exact ⟨⟨3,by decide,by go_num,by rw [HR3.out,HA.out,if_pos ⟨HDD.out,HEE.out⟩,← Int.add_assoc,HRR.out],by rw [HW3.out,HA.out,if_neg (by rw [HEE.out];simp),Int.add_zero,HWW.out],rfl⟩,by simp [intOf]⟩
            · have HEE:=Lib.hid he
              rw [he] at ce
              clear he
              repeat' (first|go_values|go_skip|go_guarded|(with_reducible first|refine Way.go ?_|refine wayO ?_)|go_step|go_upon)
              exact ⟨⟨3,by decide,by go_num,by rw [HR3.out,HA.out,if_neg (by rw [HEE.out];simp),Int.add_zero,HRR.out],by rw [HW3.out,HA.out,if_pos ⟨HDD.out,HEE.out⟩,← Int.add_assoc,HWW.out],rfl⟩,by simp [intOf]⟩
          · have bd:(p.d2==(i:Int) + 1)=false:=by simp [hd]
            have HDD:=Lib.hid hd
            clear hd
            repeat' (first|go_values|go_skip|go_guarded|(with_reducible first|refine Way.go ?_|refine wayO ?_)|go_step|go_upon)
            exact ⟨⟨3,by decide,by go_num,by rw [HR3.out,HA.out,if_neg (fun h=> HDD.out h.1),Int.add_zero,HRR.out],by rw [HW3.out,HA.out,if_neg (fun h=> HDD.out h.1),Int.add_zero,HWW.out],rfl⟩,by simp [intOf]⟩
        · have cd:wr.cell? ⟨gp,op + j * 26 + 20,none⟩=some (.int .i64 p.d3):=HC2.out 20 _ rfl
          have ce:wr.cell? ⟨gp,op + j * 26 + 21,none⟩=some (.bool p.e3):=HC2.out 21 _ rfl
          have HR3:=Lib.hid (show fdsTo p ((i:Int) + 1) false 4=fdsTo p ((i:Int) + 1) false 3 + fdAt p ((i:Int) + 1) false 3 from rfl)
          have HW3:=Lib.hid (show fdsTo p ((i:Int) + 1) true 4=fdsTo p ((i:Int) + 1) true 3 + fdAt p ((i:Int) + 1) true 3 from rfl)
          have HA:=Lib.hid (show ∀ e,fdAt p ((i:Int) + 1) e 3=if p.d3=(i:Int) + 1∧p.e3=e then 1 else 0 from fun _=> rfl)
          obtain ⟨rr,hrr⟩:∃ rr,ra + fdsTo p ((i:Int) + 1) false 3=rr:=⟨_,rfl⟩
          obtain ⟨ww,hww⟩:∃ ww,wa + fdsTo p ((i:Int) + 1) true 3=ww:=⟨_,rfl⟩
          have HRR:=Lib.hid hrr
          have HWW:=Lib.hid hww
          have wr1:IntKind.i64.wrap (rr + 1)=rr + 1:=by rw [IntKind.wrap_i64];omega
          have ww1:IntKind.i64.wrap (ww + 1)=ww + 1:=by rw [IntKind.wrap_i64];omega
          rw [hrr,hww]
          clear hrr hww
          by_cases hd:p.d3=(i:Int) + 1
          · have bd:(p.d3==(i:Int) + 1)=true:=by simp [hd]
            have HDD:=Lib.hid hd
            clear hd
            cases he:p.e3
            · have HEE:=Lib.hid he
              rw [he] at ce
              clear he
              repeat' (first|go_values|go_skip|go_guarded|(with_reducible first|refine Way.go ?_|refine wayO ?_)|go_step|go_upon)
              exact ⟨⟨4,by decide,by go_num,by rw [HR3.out,HA.out,if_pos ⟨HDD.out,HEE.out⟩,← Int.add_assoc,HRR.out],by rw [HW3.out,HA.out,if_neg (by rw [HEE.out];simp),Int.add_zero,HWW.out],rfl⟩,by simp [intOf]⟩
            · have HEE:=Lib.hid he
              rw [he] at ce
              clear he
              repeat' (first|go_values|go_skip|go_guarded|(with_reducible first|refine Way.go ?_|refine wayO ?_)|go_step|go_upon)
              exact ⟨⟨4,by decide,by go_num,by rw [HR3.out,HA.out,if_neg (by rw [HEE.out];simp),Int.add_zero,HRR.out],by rw [HW3.out,HA.out,if_pos ⟨HDD.out,HEE.out⟩,← Int.add_assoc,HWW.out],rfl⟩,by simp [intOf]⟩
          · have bd:(p.d3==(i:Int) + 1)=false:=by simp [hd]
            have HDD:=Lib.hid hd
            clear hd
            repeat' (first|go_values|go_skip|go_guarded|(with_reducible first|refine Way.go ?_|refine wayO ?_)|go_step|go_upon)
            exact ⟨⟨4,by decide,by go_num,by rw [HR3.out,HA.out,if_neg (fun h=> HDD.out h.1),Int.add_zero,HRR.out],by rw [HW3.out,HA.out,if_neg (fun h=> HDD.out h.1),Int.add_zero,HWW.out],rfl⟩,by simp [intOf]⟩
        · rw [fdsTo_four,fdsTo_four]
          repeat' (first|go_values|go_skip|go_guarded|(with_reducible first|refine Way.go ?_|refine wayO ?_)|go_step|go_upon)
          exact ⟨⟨j + 1,by omega,by go_num,by rw [HR2.out],by rw [HW2.out],rfl⟩,by simp [intOf];omega⟩
     · have hje:j=k.p.length:=by omega
       have o1:=HOK.out.1
       have o2:=HOK.out.2.1
       have o3:=HOK.out.2.2
       rw [hje,List.take_length,← o1,← o2]
       have c0:wr.cell? ⟨gq,oq + i * 3,none⟩=some (.string q.data):=by simpa using HC.out 0 (.string q.data) rfl
       have c1:wr.cell? ⟨gq,oq + i * 3 + 1,none⟩=some (.int .i64 q.rd):=HC.out 1 _ rfl
       have c2:wr.cell? ⟨gq,oq + i * 3 + 2,none⟩=some (.int .i64 q.wr):=HC.out 2 _ rfl
       have b8:decide (8<(q.data.size:Int))=false:=by simp;omega
       clear o1 o2 hr0 hw0
       repeat' (first|go_values|go_skip|go_guarded|(with_reducible first|refine Way.go ?_|refine wayO ?_)|go_step|go_upon)
       exact ⟨⟨i + 1,by omega,by go_num,rfl⟩,by simp [intOf];omega⟩
  · have b4:decide ((k.pipes.length:Int)≤4)=true:=by simp;omega
    repeat' (first|go_values|go_skip|go_guarded|(with_reducible first|refine Way.go ?_|refine wayO ?_)|go_step|go_upon)
    go_ret
    exact gives_of (by simp) HBE.out
end Kn
end Go.Proofs.YtalapfkfdhpomaaGreatDoor
