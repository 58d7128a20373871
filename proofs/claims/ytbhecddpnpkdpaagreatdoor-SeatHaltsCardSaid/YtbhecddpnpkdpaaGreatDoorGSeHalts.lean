/- The law SeatHalts: it answers true. Conditions: rows that there can be; the table of the instructions' parts lies there. The card of SeatHalts: who is halted stays so, whatever comes, no window wakes it; for every partition, few images, every script of 30 acts and 60 cycles each at most. -/
import Derived.Test.YtbhecddpnpkdpaaGreatDoorGSe2
import Derived.Test.YtbhecddpnpkdpaaGreatDoorGEq
import Derived.Test.YtbhecddpnpkdpaaGreatDoorGCard
set_option linter.unusedVariables false
set_option maxRecDepth 100000
set_option maxHeartbeats 8000000
set_option linter.unusedSimpArgs false
namespace Go.Proofs.YtbhecddpnpkdpaaGreatDoor
open Go.RowKit KR RegT3
namespace Kn
def HaltsR (w:World) (bS:Nat) (cs qc:Array Value) (y:Lay) (bs:List BoxV) (k:Kern) (n:Nat) (iv:Value) (W:World):Prop:=∃ i:Nat,i≤n∧i≤30∧iv=.int .i64 i∧Hid (W.heap[bS]? =some (.cells cs 50 (0,0)))∧Hid (W.heap[w.heap.size]? =some (.cells qc 28 (0,0)))∧Hid (LayAt W y bs k)∧Hid (Below w.heap.size w W)
theorem LSeatHalts (g:SGuest) (iv ov nv lv mv:Value) (l more:List SDeed) (w:World) (hi:Rd 1 strCells w iv g.images) (ho:Rd 5 Chan.cells w ov g.outs) (hn:Rd 5 Chan.cells w nv g.ins_) (hl:Rd 3 SDeed.cells w lv l) (hm:Rd 3 SDeed.cells w mv more) (hx:PartOk g.x) (hs:SmallSDeeds l) (hT:Tab w):
 Calls Tryz.prog 6 #[.agg (sgcells g iv ov nv),lv,mv] w (Gives (.bool true) w):=by
 have HT:=hU (fun W (h:Below w.heap.size w W)=> hT.below h)
 have HI:=hU (fun W (h:Below w.heap.size w W)=> hi.below h)
 have HO:=hU (fun W (h:Below w.heap.size w W)=> ho.below h)
 have HN:=hU (fun W (h:Below w.heap.size w W)=> hn.below h)
 have HD:=hU (fun W (h:Below w.heap.size w W)=> hl.below h)
 obtain ⟨ma,mc,rfl,_,_⟩:=hm.shape
 have HLV:=hU hm.elem.2.2.2
 clear hm
 clear hi ho hn hl hT
 obtain ⟨Wn,hW0,hb0,HQ⟩:=nb1 (W:=w) (.cells (sgcells g iv ov nv) 28) rfl
 have HB:=hU hb0
 clear hb0
 go_enter Tryz.func6,Tryz.ntmps6
 repeat' (first|(rw [hW0];clear hW0)|go_values|go_skip|go_guarded|(with_reducible refine wg ?_)|go_step|go_upon)
 refine (LShownS _ (HT.out _ HB.out)).mono ?_
 rintro er Wn ⟨rfl,hb⟩
 replace HQ:=nB hb HQ
 replace HB:=nW hb HB
 clear hb
 dsimp only
 repeat' (first
  |(refine wpList_load (t:=28) (v:=.agg (sgcells g iv ov nv)) rfl rfl rfl (run_load_whole aggSGuest HQ.out rfl) ?_)
  |go_values|go_skip|go_guarded|(with_reducible refine wg ?_)|go_step|go_upon)
 refine (LFewS g iv ov nv _ (HI.out _ HB.out) (HO.out _ HB.out) (HN.out _ HB.out)).mono ?_
 rintro er Wn ⟨rfl,hb⟩
 replace HQ:=nB hb HQ
 replace HB:=nW hb HB
 clear hb
 dsimp only
 cases hfew:fewS g
 · repeat' (first|go_values|go_skip|go_guarded|(with_reducible refine wg ?_)|go_step|go_upon)
   go_ret
   exact gives_of rfl HB.out
 have HG:=hU (few_okS hfew hx)
 clear hfew
 repeat' (first
  |(refine wpList_load (t:=28) (v:=.agg (sgcells g iv ov nv)) rfl rfl rfl (run_load_whole aggSGuest HQ.out rfl) ?_)
  |go_values|go_skip|go_guarded|(with_reducible refine wg ?_)|go_step|go_upon)
 refine (SSPlays g iv ov nv lv l _ (HI.out _ HB.out) (HO.out _ HB.out) (HN.out _ HB.out) (HD.out _ HB.out) HG.out hs (HT.out _ HB.out)).mono ?_
 rintro er Wn ⟨vS,rfl,⟨yS,bsS,rfl,hl⟩,hb⟩
 replace HQ:=nB hb HQ
 replace HB:=nW hb HB
 clear hb
 have HLS:=hU hl
 clear hl
 dsimp only
 obtain ⟨s,hss⟩:∃ s,splays g l=s:=⟨_,rfl⟩
 have HGD:Hid (SGood 1800 s):=hU (by rw [← hss];exact splays_good HG.out hs)
 rw [hss] at HLS ⊢
 clear hss
 clear HI HN HD hs
 have hrd:=HGD.out.nw
 by_cases h3:s.st=3
 · have b3:(s.st !=3)=false:=by simp [h3]
   have hcy:=scycle_stays (x:=g.x) (s:=s) (by omega)
   have hwi:=swindow_stays (s:=s) (by omega)
   have b1:(s.st==1)=false:=by simp [h3]
   clear h3
   obtain ⟨bHS,hab,habHS⟩:=nbz HB
   have hxHQHS:=nlt HQ hab
   obtain ⟨Wn,hWn,hba,HS⟩:=nb1 (W:=Wn) (.cells #[.slice none 0 0,.slice none 0 0,.int .i64 0,.slice none 0 0,.slice none 0 0,.int .i64 0,.slice none 0 0,.int .u64 0,.slice none 0 0,.slice none 0 0,.slice none 0 0,.slice none 0 0,.string ⟨#[]⟩,.slice none 0 0,.slice none 0 0,.int .i64 0,.int .i64 0,.int .i64 0,.int .i64 0] 50) hab
   replace HQ:=nB hba HQ
   replace HLS:=nL hba HLS
   replace HB:=nW hba HB
   clear hba
   have HO:=hU (onesS HLS.out)
   repeat' (first
    |(rw [hWn,hab];clear hWn hab)
    |(refine wpList_store (t:=50) (v:=.agg (scells yS s)) (off:=0) (new:=scells yS s) rfl rfl rfl rfl aggSeat.size HS.out rfl (show 0 + 19≤19 by decide) HO.out rfl ?_;intro Wn hp
      replace HB:=pW hp HB
      replace HQ:=pT hp HS HQ
      replace HLS:=pL hp HS HLS noSeat
      replace HS:=pA hp
      clear hp
      have f17:Wn.cell? ⟨bHS,17,none⟩=some (.int .i64 s.st):=hcell HS.out 17)
    |go_values|go_skip|go_guarded|(with_reducible refine wg ?_)|go_step|go_upon)
   clear HO
   clear f17
   go_loopw [10] (fun jv wr=> HaltsR w bHS (scells yS s) (sgcells g iv ov nv) yS bsS s.k more.length jv wr) (fun jv _=> more.length - (intOf jv).toNat)
   case atStart=> exact ⟨0,Nat.zero_le _,Nat.zero_le _,rfl,HS,HQ,HLS,HB⟩
   case round=>
    clear HS HQ HLS HB
    obtain ⟨i,hi,h30,rfl,HS,HQ,HLS,HB⟩:=hrel
    obtain ⟨Wn,rfl⟩:∃ Wn,Wn=wr:=⟨_,rfl⟩
    have hc1:decide ((i:Int)<(more.length:Int))=decide (i<more.length):=by simp
    have hc2:decide ((i:Int)<30)=decide (i<30):=by simp;omega
    by_cases hil:i<more.length∧i<30
    · obtain ⟨hi1,hi2⟩:=hil
      rw [decide_eq_true hi1] at hc1
      rw [decide_eq_true hi2] at hc2
      obtain ⟨a,hx⟩:∃ a,more[i]? =some a:=⟨_,List.getElem?_eq_getElem hi1⟩
      obtain ⟨gb,off,hla,hgb,hcell0⟩:=HLV.out i a hx
      subst hla
      have HC:=hU (fun W (h:Below w.heap.size w W)=> hcell0 W h)
      clear hcell0 hx HLV
      have hj1:(i:Int)<(more.length:Int):=by omega
      have hj0:(0:Int)≤(i:Int):=by omega
      have HSo:=HS
      obtain ⟨bHN2,hab,habHN2⟩:=nbz HB
      have hxHQHN2:=nlt HQ hab
      have hxHSHN2:=nlt HS hab
      obtain ⟨Wn,hWn,hba,HN2⟩:=nb1 (W:=Wn) (.cells #[.slice none 0 0,.slice none 0 0,.int .i64 0,.slice none 0 0,.slice none 0 0,.int .i64 0,.slice none 0 0,.int .u64 0,.slice none 0 0,.slice none 0 0,.slice none 0 0,.slice none 0 0,.string ⟨#[]⟩,.slice none 0 0,.slice none 0 0,.int .i64 0,.int .i64 0,.int .i64 0,.int .i64 0] 50) hab
      replace HQ:=nB hba HQ
      replace HS:=nB hba HS
      replace HLS:=nL hba HLS
      replace HB:=nW hba HB
      clear hba
      have HO:=hU (onesS HLS.out)
      rcases (by omega:a.kind=1∨a.kind=3∨(a.kind ≠ 1∧a.kind ≠ 3)) with k|k|k
      · have k1:(a.kind==1)=true:=by simp [k]
        have k3:(a.kind==3)=false:=by simp [k]
        clear k
        repeat' (first
         |(rw [hWn,hab];clear hWn hab)
         |(refine wpList_load (t:=50) (v:=.agg (scells yS s)) rfl rfl rfl (run_load_whole aggSeat HSo.out rfl) ?_;clear HSo)
         |(refine wpList_load (t:=50) (v:=.agg (scells yS s)) rfl rfl rfl (run_load_whole aggSeat HS.out rfl) ?_)
         |(refine wpList_store (t:=50) (v:=.agg (scells yS s)) (off:=0) (new:=scells yS s) rfl rfl rfl rfl aggSeat.size HN2.out rfl (show 0 + 19≤19 by decide) HO.out rfl ?_;intro Wn hp
           replace HB:=pW hp HB
           replace HQ:=pT hp HN2 HQ
           replace HS:=pO hp HS
           replace HLS:=pL hp HN2 HLS noSeat
           replace HN2:=pA hp
           clear hp
           have c0:Wn.cell? ⟨gb,off + i * 3,none⟩=some (.int .i64 a.kind):=HC.out Wn HB.out 0 _ rfl)
         |(refine wpList_load (t:=24) (v:=.agg g.x.cells) rfl rfl rfl (run_load_part aggPart HQ.out (sgcells_part _ _ _ _) rfl) ?_)
         |go_values|go_skip|go_guarded|(with_reducible refine wg ?_)|go_step|go_upon)
        clear c0
        refine (SCycle g.x (.agg (scells yS s)) s 1800 _ ⟨yS,bsS,rfl,HLS.out⟩ HGD.out (by decide) hx (HT.out _ HB.out)).mono ?_
        rintro er Wn ⟨vN,rfl,⟨yN,bsN,rfl,hl⟩,hb⟩
        replace HQ:=nB hb HQ
        replace HS:=nB hb HS
        replace HN2:=nB hb HN2
        replace HLS:=nL hb HLS
        replace HB:=nW hb HB
        clear hb
        have HLN:=hU hl
        clear hl
        dsimp only
        rw [hcy] at HLN ⊢
        clear HO
        have HO:=hU (onesS HLN.out)
        repeat' (first
         |(refine wpList_store (t:=50) (v:=.agg (scells yN s)) (off:=0) (new:=scells yN s) rfl rfl rfl rfl aggSeat.size HN2.out rfl (show 0 + 19≤19 by decide) HO.out rfl ?_;intro Wn hp
           replace HB:=pW hp HB
           replace HQ:=pT hp HN2 HQ
           replace HS:=pO hp HS
           replace HLS:=pL hp HN2 HLS noSeat
           replace HLN:=pL hp HN2 HLN noSeat
           replace HN2:=pA hp
           clear hp
           have c0:Wn.cell? ⟨gb,off + i * 3,none⟩=some (.int .i64 a.kind):=HC.out Wn HB.out 0 _ rfl)
         |(refine wpList_load (t:=50) (v:=.agg (scells yN s)) rfl rfl rfl (run_load_whole aggSeat HN2.out rfl) ?_)
         |(refine wpList_load (t:=50) (v:=.agg (scells yS s)) rfl rfl rfl (run_load_whole aggSeat HS.out rfl) ?_)
         |go_values|go_skip|go_guarded|(with_reducible refine wg ?_)|go_step|go_upon)
        clear c0 HO
        refine (ESSeat (.agg (scells yN s)) (.agg (scells yS s)) s _ ⟨yN,bsN,rfl,HLN.out⟩ ⟨yS,bsS,rfl,HLS.out⟩).mono ?_
        rintro er Wn ⟨rfl,hb⟩
        replace HQ:=nB hb HQ
        replace HS:=nB hb HS
        replace HN2:=nB hb HN2
        replace HLS:=nL hb HLS
        replace HLN:=nL hb HLN
        replace HB:=nW hb HB
        clear hb
        dsimp only
        repeat' (first|go_values|go_skip|go_guarded|(with_reducible refine wg ?_)|go_step|go_upon)
        exact ⟨⟨i + 1,by omega,by omega,by go_num,HS,HQ,HLS,HB⟩,by simp [intOf];omega⟩
      · have k1:(a.kind==1)=false:=by simp [k]
        have k3:(a.kind==3)=true:=by simp [k]
        clear k
        repeat' (first
         |(rw [hWn,hab];clear hWn hab)
         |(refine wpList_load (t:=50) (v:=.agg (scells yS s)) rfl rfl rfl (run_load_whole aggSeat HSo.out rfl) ?_;clear HSo)
         |(refine wpList_load (t:=50) (v:=.agg (scells yS s)) rfl rfl rfl (run_load_whole aggSeat HS.out rfl) ?_)
         |(refine wpList_store (t:=50) (v:=.agg (scells yS s)) (off:=0) (new:=scells yS s) rfl rfl rfl rfl aggSeat.size HN2.out rfl (show 0 + 19≤19 by decide) HO.out rfl ?_;intro Wn hp
           replace HB:=pW hp HB
           replace HQ:=pT hp HN2 HQ
           replace HS:=pO hp HS
           replace HLS:=pL hp HN2 HLS noSeat
           replace HN2:=pA hp
           clear hp
           have c0:Wn.cell? ⟨gb,off + i * 3,none⟩=some (.int .i64 a.kind):=HC.out Wn HB.out 0 _ rfl)
         |go_values|go_skip|go_guarded|(with_reducible refine wg ?_)|go_step|go_upon)
        clear c0
        refine (SWindow (.agg (scells yS s)) s _ ⟨yS,bsS,rfl,HLS.out⟩).mono ?_
        rintro er Wn ⟨vN,rfl,⟨yN,bsN,rfl,hl⟩,hb⟩
        replace HQ:=nB hb HQ
        replace HS:=nB hb HS
        replace HN2:=nB hb HN2
        replace HLS:=nL hb HLS
        replace HB:=nW hb HB
        clear hb
        have HLN:=hU hl
        clear hl
        dsimp only
        rw [hwi] at HLN ⊢
        clear HO
        have HO:=hU (onesS HLN.out)
        repeat' (first
         |(refine wpList_store (t:=50) (v:=.agg (scells yN s)) (off:=0) (new:=scells yN s) rfl rfl rfl rfl aggSeat.size HN2.out rfl (show 0 + 19≤19 by decide) HO.out rfl ?_;intro Wn hp
           replace HB:=pW hp HB
           replace HQ:=pT hp HN2 HQ
           replace HS:=pO hp HS
           replace HLS:=pL hp HN2 HLS noSeat
           replace HLN:=pL hp HN2 HLN noSeat
           replace HN2:=pA hp
           clear hp
           have c0:Wn.cell? ⟨gb,off + i * 3,none⟩=some (.int .i64 a.kind):=HC.out Wn HB.out 0 _ rfl)
         |(refine wpList_load (t:=50) (v:=.agg (scells yN s)) rfl rfl rfl (run_load_whole aggSeat HN2.out rfl) ?_)
         |(refine wpList_load (t:=50) (v:=.agg (scells yS s)) rfl rfl rfl (run_load_whole aggSeat HS.out rfl) ?_)
         |go_values|go_skip|go_guarded|(with_reducible refine wg ?_)|go_step|go_upon)
        clear c0 HO
        refine (ESSeat (.agg (scells yN s)) (.agg (scells yS s)) s _ ⟨yN,bsN,rfl,HLN.out⟩ ⟨yS,bsS,rfl,HLS.out⟩).mono ?_
        rintro er Wn ⟨rfl,hb⟩
        replace HQ:=nB hb HQ
        replace HS:=nB hb HS
        replace HN2:=nB hb HN2
        replace HLS:=nL hb HLS
        replace HLN:=nL hb HLN
        replace HB:=nW hb HB
        clear hb
        dsimp only
        repeat' (first|go_values|go_skip|go_guarded|(with_reducible refine wg ?_)|go_step|go_upon)
        exact ⟨⟨i + 1,by omega,by omega,by go_num,HS,HQ,HLS,HB⟩,by simp [intOf];omega⟩
      · have k1:(a.kind==1)=false:=by simp [k.1]
        have k3:(a.kind==3)=false:=by simp [k.2]
        clear k
        repeat' (first
         |(rw [hWn,hab];clear hWn hab)
         |(refine wpList_load (t:=50) (v:=.agg (scells yS s)) rfl rfl rfl (run_load_whole aggSeat HSo.out rfl) ?_;clear HSo)
         |(refine wpList_load (t:=50) (v:=.agg (scells yS s)) rfl rfl rfl (run_load_whole aggSeat HS.out rfl) ?_)
         |(refine wpList_store (t:=50) (v:=.agg (scells yS s)) (off:=0) (new:=scells yS s) rfl rfl rfl rfl aggSeat.size HN2.out rfl (show 0 + 19≤19 by decide) HO.out rfl ?_;intro Wn hp
           replace HB:=pW hp HB
           replace HQ:=pT hp HN2 HQ
           replace HS:=pO hp HS
           replace HLS:=pL hp HN2 HLS noSeat
           replace HN2:=pA hp
           clear hp
           have c0:Wn.cell? ⟨gb,off + i * 3,none⟩=some (.int .i64 a.kind):=HC.out Wn HB.out 0 _ rfl)
         |(refine wpList_load (t:=50) (v:=.agg (scells yS s)) rfl rfl rfl (run_load_whole aggSeat HN2.out rfl) ?_)
         |go_values|go_skip|go_guarded|(with_reducible refine wg ?_)|go_step|go_upon)
        clear c0 HO
        refine (ESSeat (.agg (scells yS s)) (.agg (scells yS s)) s _ ⟨yS,bsS,rfl,HLS.out⟩ ⟨yS,bsS,rfl,HLS.out⟩).mono ?_
        rintro er Wn ⟨rfl,hb⟩
        replace HQ:=nB hb HQ
        replace HS:=nB hb HS
        replace HN2:=nB hb HN2
        replace HLS:=nL hb HLS
        replace HB:=nW hb HB
        clear hb
        dsimp only
        repeat' (first|go_values|go_skip|go_guarded|(with_reducible refine wg ?_)|go_step|go_upon)
        exact ⟨⟨i + 1,by omega,by omega,by go_num,HS,HQ,HLS,HB⟩,by simp [intOf];omega⟩
    · rcases Decidable.em (i<more.length) with hi1|hi1
      case' inl=>
       rw [decide_eq_true hi1] at hc1
       rw [decide_eq_false (show ¬ i<30 by omega)] at hc2
      case' inr=>
       rw [decide_eq_false hi1] at hc1
       clear hc2
      all_goals
       repeat' (first|(refine wpList_load (t:=50) (v:=.agg (scells yS s)) rfl rfl rfl (run_load_whole aggSeat HS.out rfl) ?_)|go_values|go_skip|go_guarded|(with_reducible refine wg ?_)|go_step|go_upon)
       refine (SGoes (.agg (scells yS s)) s _ ⟨yS,bsS,rfl,HLS.out⟩).mono ?_
       rintro er Wn ⟨rfl,hb⟩
       replace HQ:=nB hb HQ
       replace HS:=nB hb HS
       replace HLS:=nL hb HLS
       replace HB:=nW hb HB
       clear hb
       dsimp only
       repeat' (first|go_values|go_skip|go_guarded|(with_reducible refine wg ?_)|go_step|go_upon)
       go_ret
       exact gives_of rfl HB.out
 · have b3:(s.st !=3)=true:=by simp [h3]
   clear h3
   obtain ⟨bHS,hab,habHS⟩:=nbz HB
   have hxHQHS:=nlt HQ hab
   obtain ⟨Wn,hWn,hba,HS⟩:=nb1 (W:=Wn) (.cells #[.slice none 0 0,.slice none 0 0,.int .i64 0,.slice none 0 0,.slice none 0 0,.int .i64 0,.slice none 0 0,.int .u64 0,.slice none 0 0,.slice none 0 0,.slice none 0 0,.slice none 0 0,.string ⟨#[]⟩,.slice none 0 0,.slice none 0 0,.int .i64 0,.int .i64 0,.int .i64 0,.int .i64 0] 50) hab
   replace HQ:=nB hba HQ
   replace HLS:=nL hba HLS
   replace HB:=nW hba HB
   clear hba
   have HO:=hU (onesS HLS.out)
   repeat' (first
    |(rw [hWn,hab];clear hWn hab)
    |(refine wpList_store (t:=50) (v:=.agg (scells yS s)) (off:=0) (new:=scells yS s) rfl rfl rfl rfl aggSeat.size HS.out rfl (show 0 + 19≤19 by decide) HO.out rfl ?_;intro Wn hp
      replace HB:=pW hp HB
      replace HQ:=pT hp HS HQ
      replace HLS:=pL hp HS HLS noSeat
      replace HS:=pA hp
      clear hp
      have f17:Wn.cell? ⟨bHS,17,none⟩=some (.int .i64 s.st):=hcell HS.out 17)
    |go_values|go_skip|go_guarded|(with_reducible refine wg ?_)|go_step|go_upon)
   clear HO
   go_ret
   exact gives_of rfl HB.out
end Kn
end Go.Proofs.YtbhecddpnpkdpaaGreatDoor
namespace Go.Proofs.YtbhecddpnpkdpaaGreatDoor.lawSeatHalts
open Go.ChangeShapes Go.WideShapes Go.ChangeAt Go.RowKit
theorem contract (H:Type) (enc:TypeId × Value→H) (W:World) (base:Nat) (args:Array Value) (ds gs:List (DataW H)) (before:List MemPlace)
 (hval:∀ (j:Nat) t v,Tryz.f6.params[j]? =some t→args[j]? =some v→Value.okWide Tryz.prog W .any base t v)
 (hW:DataW.Whole enc Tryz.prog Tryz.f6.params.toList Rows.seatHaltsSpec.vars false W args.toList ds gs before) (hL:laidMetH Tryz.prog Rows.seatHaltsRow.laid W)
 (hr:(DataW.weightsEach Tryz.prog (Tryz.f6.params.toList ++ (OpenSpec.ofChange Rows.seatHaltsSpec).bare.plain.varTypes Tryz.prog) (ds ++ gs)).all (· ≤reachBytes)=true):
 Calls Tryz.prog 6 args W fun e W'=> ∃ v,e=.returned v∧Rows.seatHaltsSpec.post enc Tryz.prog Tryz.f6 false true false false W args v W':=by
 have hW':=hW
 obtain ⟨p,q,hA0,hV,rfl,hfz,hnd⟩:=hW
 have hA:DataW.TrodAll enc Tryz.prog W 0 (fun _=> true) true Tryz.f6.params.toList args.toList ds p:=hA0
 rw [Tryz.params6] at hA hval
 obtain ⟨v0,v1,v2,d0,d1,d2,p0,p1,p2,rfl,rfl,rfl,h0,h1,h2⟩:=trodAll_three hA
 obtain ⟨rfl,rfl⟩:=trodVars_none hV
 obtain ⟨g,iv,ov,nv,rfl,hi,ho,hn,hx⟩:=Kn.open_sguest (hval 0 28 v0 rfl rfl) h0
 obtain ⟨l,hl,hwl⟩:=Kn.open_sscript (hval 1 29 v1 rfl rfl) h1
 have hsl:=Kn.sscript_small (j:=1) hr (by kernel_rfl) rfl hwl
 obtain ⟨m,hm,hwm⟩:=Kn.open_sscript (hval 2 29 v2 rfl rfl) h2
 have hsm:=Kn.sscript_small (j:=2) hr (by kernel_rfl) rfl hwm
 refine (Kn.LSeatHalts g iv ov nv v1 v2 l m W hi ho hn hl hm hx hsl (tab_of hL)).mono fun e W' ⟨he,hb⟩=> ?_
 subst he
 exact ⟨_,rfl,law_post (tb:=4) hW' rfl rfl rfl rfl (by kernel_rfl) Tryz.underlying4 laid_outB (by rw [Tryz.params6];decide +kernel) hb⟩
abbrev zeros:Array Value:=#[.agg #[.int .i64 0,.int .i64 0,.int .i64 0,.int .i64 0,.slice none 0 0,.slice none 0 0,.slice none 0 0],.slice none 0 0,.slice none 0 0]
theorem laid_met (os:Os):laidMet Tryz.prog Rows.seatHaltsRow.laid ((laidWorld os).forCall (fun _ _=> 0) ⟨#[],zeros,[]⟩).memory:=
 laidMet_of_run' 8 (by kernel_rfl) (by kernel_rfl)
theorem reads (os:Os) {H:Type} (enc:TypeId × Value→H):∃ places,DataW.whole enc Tryz.prog ((laidWorld os).forCall (fun _ _=> 0) ⟨#[],zeros,[]⟩).memory Tryz.f6.params.toList Rows.seatHaltsSpec.vars false zeros.toList 8=some ([.agg [.agg [.lit (.int .i64 0),.agg [.lit (.int .i64 0),.lit (.int .i64 0),.lit (.int .i64 0)]],.nil,.nil,.nil],.nil,.nil],[],places):=
 ⟨[],by kernel_rfl⟩
theorem lifted (os:Os) (started:os.Started) (H:Type) (enc:TypeId × Value→H) (F:Stop.Interp):
 ReturnsInHanded {} Tryz.checked os 6 .any ((OpenSpec.ofChange Rows.seatHaltsSpec).preRow enc Tryz.prog Tryz.f6 Rows.seatHaltsRow.domain false Rows.seatHaltsRow.laid) (((OpenSpec.ofChange Rows.seatHaltsSpec).at F).post enc Tryz.prog Tryz.f6 false true false false):=by
 obtain ⟨places,hx⟩:=reads os enc
 refine returnsInHanded_of_row (C:=Tryz.checked) (s:=OpenSpec.ofChange Rows.seatHaltsSpec) own started (by kernel_rfl) Tryz.func6
  (witness_row_at (enc:=enc) (C:=Tryz.checked) false (laidWorld os) zeros rfl (by kernel_rfl) (by kernel_rfl) (by kernel_rfl)
    (OpenSpec.preRow_of_cond 8 hx (by kernel_rfl) (fun k hk=> by cases hk) (by kernel_rfl) (laid_met os))) ?_
 intro W base args ds gs before hval hW _ hcond hr hL _ _
 exact contract H enc W base args ds gs before hval hW hL hr
theorem said:Rows.SeatHaltsSaid:=
 OpenClaim.holds_of_cond 6 Tryz.f6 rfl rfl rfl rfl rfl rfl rfl ⟨rfl,rfl,rfl,rfl,rfl⟩ rfl rfl rfl rfl rfl (by kernel_rfl) Tryz.func6 (by kernel_rfl)
  (of_decide_eq_true (by kernel_rfl)) (by unfold Func.isWrapper;first|(rw [if_pos (by decide +kernel)];kernel_rfl)|(rw [if_neg (by decide +kernel)];exact ⟨rfl,rfl⟩))
  (fun os started H enc _ F=> by rw [OpenClaim.pre_eq_preRow];exact lifted os started H enc F)
theorem plain (f:FuncId) (fn:Func) (hf:Tryz.pinned.checked.prog.funcNamed "transom/transomlaw14.SeatHalts" =some f) (hfn:Tryz.pinned.checked.prog.funcs[f]? =some fn):
 false=Tryz.pinned.checked.prog.looks []∧∀ (j:Nat) t,fn.params[j]? =some t→Tryz.pinned.checked.prog.wantsStandIn t=false:=by
 obtain rfl:f=6:=Option.some.inj ((show Tryz.prog.funcNamed "transom/transomlaw14.SeatHalts" =some 6 by kernel_rfl).symm.trans hf)|>.symm
 obtain rfl:fn=Tryz.f6:=(Option.some.inj (Tryz.func6.symm.trans hfn)).symm
 refine ⟨looks_off,fun j t ht=> ?_⟩
 have hm:=Array.mem_of_getElem? ht
 rw [Tryz.params6] at hm
 have hall:∀ t ∈ (#[28,29,29]:Array TypeId),Tryz.prog.wantsStandIn t=false:=by decide +kernel
 exact hall t hm
theorem card:Rows.SeatHaltsCardSaid:=
 Claim7.holds_tied_plain_at .later [] _ _ _ _ said (fun _ h=> by cases h) (by kernel_rfl) (fun _ h=> by cases h) seatHalts_row_tie rfl ⟨rfl,rfl⟩ (by kernel_rfl) rfl plain (by kernel_rfl)
#print axioms card
end Go.Proofs.YtbhecddpnpkdpaaGreatDoor.lawSeatHalts
