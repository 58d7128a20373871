/- The law SeatRests: it answers true. Conditions: rows that there can be; the table of the instructions' parts lies there. The card of SeatRests: who rests goes on at its next window, and not ahead of it; for every partition, few images, every script of 30 acts and 60 cycles each at most. -/
import Derived.Test.YtkepkcjjenidgaaGreatDoorGSe2
import Derived.Test.YtkepkcjjenidgaaGreatDoorGEq
import Derived.Test.YtkepkcjjenidgaaGreatDoorGSame
import Derived.Test.YtkepkcjjenidgaaGreatDoorGCard
set_option linter.unusedVariables false
set_option maxRecDepth 100000
set_option maxHeartbeats 8000000
set_option linter.unusedSimpArgs false
namespace Go.Proofs.YtkepkcjjenidgaaGreatDoor
open Go.RowKit KR RegT3
namespace Kn
theorem LSeatRests (g:SGuest) (iv ov nv lv:Value) (l:List SDeed) (w:World) (hi:Rd 1 strCells w iv g.images) (ho:Rd 5 Chan.cells w ov g.outs) (hn:Rd 5 Chan.cells w nv g.ins_) (hl:Rd 3 SDeed.cells w lv l) (hx:PartOk g.x) (hs:SmallSDeeds l) (hT:Tab w):
 Calls Tryz.prog 6 #[.agg (sgcells g iv ov nv),lv] w (Gives (.bool true) w):=by
 have HT:=hU (fun W (h:Below w.heap.size w W)=> hT.below h)
 have HI:=hU (fun W (h:Below w.heap.size w W)=> hi.below h)
 have HO:=hU (fun W (h:Below w.heap.size w W)=> ho.below h)
 have HN:=hU (fun W (h:Below w.heap.size w W)=> hn.below h)
 have HD:=hU (fun W (h:Below w.heap.size w W)=> hl.below h)
 clear hi ho hn hl hT
 obtain ⟨Wn,hW0,hb0,HQ⟩:=nb1 (W:=w) (.cells (sgcells g iv ov nv) 66) rfl
 have HB:=hU hb0
 clear hb0
 go_enter Tryz.func6,Tryz.ntmps6
 repeat' (first|(rw [hW0];clear hW0)|go_values|go_skip|go_guarded|(with_reducible refine wg ?_)|go_step|go_upon)
 refine (LShownS _ (HT.out _ HB.out)).mono ?_
 rintro er Wn ⟨rfl,hb⟩
 replace HQ:=nB hb HQ
 replace HB:=nW hb HB
 clear hb
 dsimp only
 repeat' (first
  |(refine wpList_load (t:=66) (v:=.agg (sgcells g iv ov nv)) rfl rfl rfl (run_load_whole aggSGuest HQ.out rfl) ?_)
  |go_values|go_skip|go_guarded|(with_reducible refine wg ?_)|go_step|go_upon)
 refine (LFewS g iv ov nv _ (HI.out _ HB.out) (HO.out _ HB.out) (HN.out _ HB.out)).mono ?_
 rintro er Wn ⟨rfl,hb⟩
 replace HQ:=nB hb HQ
 replace HB:=nW hb HB
 clear hb
 dsimp only
 cases hfew:fewS g
 · repeat' (first|go_values|go_skip|go_guarded|(with_reducible refine wg ?_)|go_step|go_upon)
   go_ret
   exact gives_of rfl HB.out
 have HG:=hU (few_okS hfew hx)
 clear hfew
 repeat' (first
  |(refine wpList_load (t:=66) (v:=.agg (sgcells g iv ov nv)) rfl rfl rfl (run_load_whole aggSGuest HQ.out rfl) ?_)
  |go_values|go_skip|go_guarded|(with_reducible refine wg ?_)|go_step|go_upon)
 refine (SSPlays g iv ov nv lv l _ (HI.out _ HB.out) (HO.out _ HB.out) (HN.out _ HB.out) (HD.out _ HB.out) HG.out hs (HT.out _ HB.out)).mono ?_
 rintro er Wn ⟨vS,rfl,⟨yS,bsS,rfl,hl⟩,hb⟩
 replace HQ:=nB hb HQ
 replace HB:=nW hb HB
 clear hb
 have HLS:=hU hl
 clear hl
 dsimp only
 obtain ⟨s,hss⟩:∃ s,splays g l=s:=⟨_,rfl⟩
 have HGD:Hid (SGood 1800 s):=hU (by rw [← hss];exact splays_good HG.out hs)
 rw [hss] at HLS ⊢
 clear hss
 clear HI HN HD hs
 have hrd:=HGD.out.nw
 obtain ⟨bHS,hab,habHS⟩:=nbz HB
 have hxHQHS:=nlt HQ hab
 obtain ⟨Wn,hWn,hba,HS⟩:=nb1 (W:=Wn) (.cells #[.slice none 0 0,.slice none 0 0,.int .i64 0,.slice none 0 0,.slice none 0 0,.int .i64 0,.slice none 0 0,.int .u64 0,.slice none 0 0,.slice none 0 0,.slice none 0 0,.slice none 0 0,.string ⟨#[]⟩,.slice none 0 0,.slice none 0 0,.int .i64 0,.int .i64 0,.int .i64 0,.int .i64 0] 58) hab
 replace HQ:=nB hba HQ
 replace HLS:=nL hba HLS
 replace HB:=nW hba HB
 clear hba
 have HO:=hU (onesS HLS.out)
 repeat' (first
  |(rw [hWn,hab];clear hWn hab)
  |(refine wpList_store (t:=58) (v:=.agg (scells yS s)) (off:=0) (new:=scells yS s) rfl rfl rfl rfl aggSeat.size HS.out rfl (show 0 + 19≤19 by decide) HO.out rfl ?_;intro Wn hp
    replace HB:=pW hp HB
    replace HQ:=pT hp HS HQ
    replace HLS:=pL hp HS HLS noSeat
    replace HS:=pA hp
    clear hp)
  |(refine wpList_load (t:=58) (v:=.agg (scells yS s)) rfl rfl rfl (run_load_whole aggSeat HS.out rfl) ?_)
  |go_values|go_skip|go_guarded|(with_reducible refine wg ?_)|go_step|go_upon)
 clear HO
 refine (SWindow (.agg (scells yS s)) s _ ⟨yS,bsS,rfl,HLS.out⟩).mono ?_
 rintro er Wn ⟨vW,rfl,⟨yW,bsW,rfl,hl⟩,hb⟩
 replace HQ:=nB hb HQ
 replace HS:=nB hb HS
 replace HLS:=nL hb HLS
 replace HB:=nW hb HB
 clear hb
 have HLW:=hU hl
 clear hl
 dsimp only
 obtain ⟨s2,hs2⟩:∃ s2,swindow s=s2:=⟨_,rfl⟩
 rw [hs2] at HLW ⊢
 have HC2:=hU hs2
 clear hs2
 by_cases h2:s.st=2
 · have b2:(s.st==2)=true:=by simp [h2]
   have e2:s2={s with st:=1}:=by rw [← HC2.out];exact if_pos h2
   have hns:=scycle_stays (x:=g.x) (s:=s) (by omega)
   have HE2:=hU e2
   clear h2 e2
   obtain ⟨bHW,hab,habHW⟩:=nbz HB
   have hxHQHW:=nlt HQ hab
   have hxHSHW:=nlt HS hab
   obtain ⟨Wn,hWn,hba,HW⟩:=nb1 (W:=Wn) (.cells #[.slice none 0 0,.slice none 0 0,.int .i64 0,.slice none 0 0,.slice none 0 0,.int .i64 0,.slice none 0 0,.int .u64 0,.slice none 0 0,.slice none 0 0,.slice none 0 0,.slice none 0 0,.string ⟨#[]⟩,.slice none 0 0,.slice none 0 0,.int .i64 0,.int .i64 0,.int .i64 0,.int .i64 0] 58) hab
   replace HQ:=nB hba HQ
   replace HS:=nB hba HS
   replace HLS:=nL hba HLS
   replace HLW:=nL hba HLW
   replace HB:=nW hba HB
   clear hba
   have HO:=hU (onesS HLW.out)
   repeat' (first
    |(rw [hWn,hab];clear hWn hab)
    |(refine wpList_store (t:=58) (v:=.agg (scells yW s2)) (off:=0) (new:=scells yW s2) rfl rfl rfl rfl aggSeat.size HW.out rfl (show 0 + 19≤19 by decide) HO.out rfl ?_;intro Wn hp
      replace HB:=pW hp HB
      replace HQ:=pT hp HW HQ
      replace HS:=pO hp HS
      replace HLS:=pL hp HW HLS noSeat
      replace HLW:=pL hp HW HLW noSeat
      replace HW:=pA hp
      clear hp
      have f17:Wn.cell? ⟨bHS,17,none⟩=some (.int .i64 s.st):=hcell HS.out 17)
    |(refine wpList_load (t:=64) (v:=.agg g.x.cells) rfl rfl rfl (run_load_part aggPart HQ.out (sgcells_part _ _ _ _) rfl) ?_)
    |(refine wpList_load (t:=58) (v:=.agg (scells yS s)) rfl rfl rfl (run_load_whole aggSeat HS.out rfl) ?_)
    |go_values|go_skip|go_guarded|(with_reducible refine wg ?_)|go_step|go_upon)
   clear HO
   clear f17
   refine (SCycle g.x (.agg (scells yS s)) s 1800 _ ⟨yS,bsS,rfl,HLS.out⟩ HGD.out (by decide) hx (HT.out _ HB.out)).mono ?_
   rintro er Wn ⟨vN,rfl,⟨yN,bsN,rfl,hl⟩,hb⟩
   replace HQ:=nB hb HQ
   replace HS:=nB hb HS
   replace HW:=nB hb HW
   replace HLS:=nL hb HLS
   replace HLW:=nL hb HLW
   replace HB:=nW hb HB
   clear hb
   have HLN:=hU hl
   clear hl
   dsimp only
   rw [hns] at HLN ⊢
   clear hns
   obtain ⟨bHN2,hab,habHN2⟩:=nbz HB
   have hxHQHN2:=nlt HQ hab
   have hxHSHN2:=nlt HS hab
   have hxHWHN2:=nlt HW hab
   obtain ⟨Wn,hWn,hba,HN2⟩:=nb1 (W:=Wn) (.cells #[.slice none 0 0,.slice none 0 0,.int .i64 0,.slice none 0 0,.slice none 0 0,.int .i64 0,.slice none 0 0,.int .u64 0,.slice none 0 0,.slice none 0 0,.slice none 0 0,.slice none 0 0,.string ⟨#[]⟩,.slice none 0 0,.slice none 0 0,.int .i64 0,.int .i64 0,.int .i64 0,.int .i64 0] 58) hab
   replace HQ:=nB hba HQ
   replace HS:=nB hba HS
   replace HW:=nB hba HW
   replace HLS:=nL hba HLS
   replace HLW:=nL hba HLW
   replace HLN:=nL hba HLN
   replace HB:=nW hba HB
   clear hba
   have HO:=hU (onesS HLN.out)
   repeat' (first
    |(rw [hWn,hab];clear hWn hab)
    |(refine wpList_store (t:=58) (v:=.agg (scells yN s)) (off:=0) (new:=scells yN s) rfl rfl rfl rfl aggSeat.size HN2.out rfl (show 0 + 19≤19 by decide) HO.out rfl ?_;intro Wn hp
      replace HB:=pW hp HB
      replace HQ:=pT hp HN2 HQ
      replace HS:=pO hp HS
      replace HW:=pO hp HW
      replace HLS:=pL hp HN2 HLS noSeat
      replace HLW:=pL hp HN2 HLW noSeat
      replace HLN:=pL hp HN2 HLN noSeat
      replace HN2:=pA hp
      clear hp)
    |(refine wpList_load (t:=58) (v:=.agg (scells yN s)) rfl rfl rfl (run_load_whole aggSeat HN2.out rfl) ?_)
    |(refine wpList_load (t:=58) (v:=.agg (scells yS s)) rfl rfl rfl (run_load_whole aggSeat HS.out rfl) ?_)
    |go_values|go_skip|go_guarded|(with_reducible refine wg ?_)|go_step|go_upon)
   clear HO
   refine (ESSeat (.agg (scells yN s)) (.agg (scells yS s)) s _ ⟨yN,bsN,rfl,HLN.out⟩ ⟨yS,bsS,rfl,HLS.out⟩).mono ?_
   rintro er Wn ⟨rfl,hb⟩
   replace HQ:=nB hb HQ
   replace HS:=nB hb HS
   replace HW:=nB hb HW
   replace HN2:=nB hb HN2
   replace HLS:=nL hb HLS
   replace HLW:=nL hb HLW
   replace HLN:=nL hb HLN
   replace HB:=nW hb HB
   clear hb
   dsimp only
   repeat' (first
    |(refine wpList_loadG (t:=58) (v:=.agg (scells yW s2)) rfl rfl (run_load_whole aggSeat HW.out rfl) ?_)
    |go_values|go_skip|go_guarded|(with_reducible refine wg ?_)|go_step|go_upon)
   refine (SGoes (.agg (scells yW s2)) s2 _ ⟨yW,bsW,rfl,HLW.out⟩).mono ?_
   rintro er Wn ⟨rfl,hb⟩
   replace HQ:=nB hb HQ
   replace HS:=nB hb HS
   replace HW:=nB hb HW
   replace HN2:=nB hb HN2
   replace HLS:=nL hb HLS
   replace HLW:=nL hb HLW
   replace HLN:=nL hb HLN
   replace HB:=nW hb HB
   clear hb
   dsimp only
   have b1:(s2.st==1)=true:=by rw [HE2.out];rfl
   have hk2:s2.k=s.k:=by rw [HE2.out]
   have HK2:=hU hk2
   clear hk2
   repeat' (first
    |(refine wpList_loadG (t:=56) (v:=.agg (kcells yW s2.k)) rfl rfl (run_load_part aggKern HW.out (scells_kern _ _) rfl) ?_)
    |(refine wpList_loadG (t:=56) (v:=.agg (kcells yS s.k)) rfl rfl (run_load_part aggKern HS.out (scells_kern _ _) rfl) ?_)
    |go_values|go_skip|go_guarded|(with_reducible refine wg ?_)|go_step|go_upon)
   refine (SameKern (.agg (kcells yW s2.k)) (.agg (kcells yS s.k)) s.k _ ⟨yW,bsW,congrArg Value.agg (congrArg (kcells yW) HK2.out),by rw [← HK2.out];exact HLW.out⟩ ⟨yS,bsS,rfl,HLS.out⟩).mono ?_
   rintro er Wn ⟨rfl,hb⟩
   replace HQ:=nB hb HQ
   replace HS:=nB hb HS
   replace HW:=nB hb HW
   replace HN2:=nB hb HN2
   replace HLS:=nL hb HLS
   replace HLW:=nL hb HLW
   replace HLN:=nL hb HLN
   replace HB:=nW hb HB
   clear hb
   dsimp only
   repeat' (first|go_values|go_skip|go_guarded|(with_reducible refine wg ?_)|go_step|go_upon)
   go_ret
   exact gives_of rfl HB.out
 · have b2:(s.st==2)=false:=by simp [h2]
   have e2:s2=s:=by rw [← HC2.out];exact swindow_stays h2
   subst e2
   clear h2
   obtain ⟨bHW,hab,habHW⟩:=nbz HB
   have hxHQHW:=nlt HQ hab
   have hxHSHW:=nlt HS hab
   obtain ⟨Wn,hWn,hba,HW⟩:=nb1 (W:=Wn) (.cells #[.slice none 0 0,.slice none 0 0,.int .i64 0,.slice none 0 0,.slice none 0 0,.int .i64 0,.slice none 0 0,.int .u64 0,.slice none 0 0,.slice none 0 0,.slice none 0 0,.slice none 0 0,.string ⟨#[]⟩,.slice none 0 0,.slice none 0 0,.int .i64 0,.int .i64 0,.int .i64 0,.int .i64 0] 58) hab
   replace HQ:=nB hba HQ
   replace HS:=nB hba HS
   replace HLS:=nL hba HLS
   replace HLW:=nL hba HLW
   replace HB:=nW hba HB
   clear hba
   have HO:=hU (onesS HLW.out)
   repeat' (first
    |(rw [hWn,hab];clear hWn hab)
    |(refine wpList_store (t:=58) (v:=.agg (scells yW s2)) (off:=0) (new:=scells yW s2) rfl rfl rfl rfl aggSeat.size HW.out rfl (show 0 + 19≤19 by decide) HO.out rfl ?_;intro Wn hp
      replace HB:=pW hp HB
      replace HQ:=pT hp HW HQ
      replace HS:=pO hp HS
      replace HLS:=pL hp HW HLS noSeat
      replace HLW:=pL hp HW HLW noSeat
      replace HW:=pA hp
      clear hp
      have f17:Wn.cell? ⟨bHS,17,none⟩=some (.int .i64 s2.st):=hcell HS.out 17)
    |(refine wpList_load (t:=58) (v:=.agg (scells yW s2)) rfl rfl rfl (run_load_whole aggSeat HW.out rfl) ?_)
    |(refine wpList_load (t:=58) (v:=.agg (scells yS s2)) rfl rfl rfl (run_load_whole aggSeat HS.out rfl) ?_)
    |go_values|go_skip|go_guarded|(with_reducible refine wg ?_)|go_step|go_upon)
   clear HO
   refine (ESSeat (.agg (scells yW s2)) (.agg (scells yS s2)) s2 _ ⟨yW,bsW,rfl,HLW.out⟩ ⟨yS,bsS,rfl,HLS.out⟩).mono ?_
   rintro er Wn ⟨rfl,hb⟩
   replace HQ:=nB hb HQ
   replace HS:=nB hb HS
   replace HW:=nB hb HW
   replace HLS:=nL hb HLS
   replace HLW:=nL hb HLW
   replace HB:=nW hb HB
   clear hb
   dsimp only
   repeat' (first|go_values|go_skip|go_guarded|(with_reducible refine wg ?_)|go_step|go_upon)
   go_ret
   exact gives_of rfl HB.out
end Kn
end Go.Proofs.YtkepkcjjenidgaaGreatDoor
namespace Go.Proofs.YtkepkcjjenidgaaGreatDoor.lawSeatRests
open Go.ChangeShapes Go.WideShapes Go.ChangeAt Go.RowKit
theorem contract (H:Type) (enc:TypeId × Value→H) (W:World) (base:Nat) (args:Array Value) (ds gs:List (DataW H)) (before:List MemPlace)
 (hval:∀ (j:Nat) t v,Tryz.f6.params[j]? =some t→args[j]? =some v→Value.okWide Tryz.prog W .any base t v)
 (hW:DataW.Whole enc Tryz.prog Tryz.f6.params.toList Rows.seatRestsSpec.vars false W args.toList ds gs before) (hL:laidMetH Tryz.prog Rows.seatRestsRow.laid W)
 (hr:(DataW.weightsEach Tryz.prog (Tryz.f6.params.toList ++ (OpenSpec.ofChange Rows.seatRestsSpec).bare.plain.varTypes Tryz.prog) (ds ++ gs)).all (· ≤reachBytes)=true):
 Calls Tryz.prog 6 args W fun e W'=> ∃ v,e=.returned v∧Rows.seatRestsSpec.post enc Tryz.prog Tryz.f6 false true false false W args v W':=by
 have hW':=hW
 obtain ⟨p,q,hA0,hV,rfl,hfz,hnd⟩:=hW
 have hA:DataW.TrodAll enc Tryz.prog W 0 (fun _=> true) true Tryz.f6.params.toList args.toList ds p:=hA0
 rw [Tryz.params6] at hA hval
 obtain ⟨v0,v1,d0,d1,p0,p1,rfl,rfl,rfl,h0,h1⟩:=trodAll_two hA
 obtain ⟨rfl,rfl⟩:=trodVars_none hV
 obtain ⟨g,iv,ov,nv,rfl,hi,ho,hn,hx⟩:=Kn.open_sguest (hval 0 66 v0 rfl rfl) h0
 obtain ⟨l,hl,hwl⟩:=Kn.open_sscript (hval 1 67 v1 rfl rfl) h1
 have hsl:=Kn.sscript_small (j:=1) hr (by kernel_rfl) rfl hwl
 refine (Kn.LSeatRests g iv ov nv v1 l W hi ho hn hl hx hsl (tab_of hL)).mono fun e W' ⟨he,hb⟩=> ?_
 subst he
 exact ⟨_,rfl,law_post (tb:=4) hW' rfl rfl rfl rfl (by kernel_rfl) Tryz.underlying4 laid_outB (by rw [Tryz.params6];decide +kernel) hb⟩
abbrev zeros:Array Value:=#[.agg #[.int .i64 0,.int .i64 0,.int .i64 0,.int .i64 0,.slice none 0 0,.slice none 0 0,.slice none 0 0],.slice none 0 0]
theorem laid_met (os:Os):laidMet Tryz.prog Rows.seatRestsRow.laid ((laidWorld os).forCall (fun _ _=> 0) ⟨#[],zeros,[]⟩).memory:=
 laidMet_of_run' 8 (by kernel_rfl) (by kernel_rfl)
theorem reads (os:Os) {H:Type} (enc:TypeId × Value→H):∃ places,DataW.whole enc Tryz.prog ((laidWorld os).forCall (fun _ _=> 0) ⟨#[],zeros,[]⟩).memory Tryz.f6.params.toList Rows.seatRestsSpec.vars false zeros.toList 8=some ([.agg [.agg [.lit (.int .i64 0),.agg [.lit (.int .i64 0),.lit (.int .i64 0),.lit (.int .i64 0)]],.nil,.nil,.nil],.nil],[],places):=
 ⟨[],by kernel_rfl⟩
theorem lifted (os:Os) (started:os.Started) (H:Type) (enc:TypeId × Value→H) (F:Stop.Interp):
 ReturnsInHanded {} Tryz.checked os 6 .any ((OpenSpec.ofChange Rows.seatRestsSpec).preRow enc Tryz.prog Tryz.f6 Rows.seatRestsRow.domain false Rows.seatRestsRow.laid) (((OpenSpec.ofChange Rows.seatRestsSpec).at F).post enc Tryz.prog Tryz.f6 false true false false):=by
 obtain ⟨places,hx⟩:=reads os enc
 refine returnsInHanded_of_row (C:=Tryz.checked) (s:=OpenSpec.ofChange Rows.seatRestsSpec) own started (by kernel_rfl) Tryz.func6
  (witness_row_at (enc:=enc) (C:=Tryz.checked) false (laidWorld os) zeros rfl (by kernel_rfl) (by kernel_rfl) (by kernel_rfl)
    (OpenSpec.preRow_of_cond 8 hx (by kernel_rfl) (fun k hk=> by cases hk) (by kernel_rfl) (laid_met os))) ?_
 intro W base args ds gs before hval hW _ hcond hr hL _ _
 exact contract H enc W base args ds gs before hval hW hL hr
theorem j0:(Rows.seatRestsRow.inPlace==Tryz.pinned.checked.prog.inPlace 6)=true:=by kernel_rfl
theorem j1:(Rows.seatRestsRow.unfollowed==Tryz.pinned.checked.prog.unfollowed 6)=true:=by kernel_rfl
theorem j2:(Rows.seatRestsRow.recurses==Tryz.pinned.checked.prog.recurses 6)=true:=by kernel_rfl
theorem j3:(Rows.seatRestsRow.named==Tryz.pinned.checked.prog.varsNamed 6)=true:=by kernel_rfl
theorem facts:joinedFacts Tryz.pinned.checked.prog 6 Tryz.f6 (OpenSpec.ofChange Rows.seatRestsSpec).bare Rows.seatRestsRow=true:=by
 unfold joinedFacts
 rw [j0,j1,j2,j3]
 kernel_rfl
theorem said:Rows.SeatRestsSaid:=
 OpenClaim.holds_of_cond 6 Tryz.f6 rfl rfl rfl rfl rfl rfl rfl ⟨rfl,rfl,rfl,rfl,rfl⟩ rfl rfl rfl rfl rfl (by kernel_rfl) Tryz.func6 facts
  (of_decide_eq_true (by kernel_rfl)) (by unfold Func.isWrapper;first|(rw [if_pos (by decide +kernel)];kernel_rfl)|(rw [if_neg (by decide +kernel)];exact ⟨rfl,rfl⟩))
  (fun os started H enc _ F=> by rw [OpenClaim.pre_eq_preRow];exact lifted os started H enc F)
theorem plain (f:FuncId) (fn:Func) (hf:Tryz.pinned.checked.prog.funcNamed "transom/transomlaw14.SeatRests" =some f) (hfn:Tryz.pinned.checked.prog.funcs[f]? =some fn):
 false=Tryz.pinned.checked.prog.looks []∧∀ (j:Nat) t,fn.params[j]? =some t→Tryz.pinned.checked.prog.wantsStandIn t=false:=by
 obtain rfl:f=6:=Option.some.inj ((show Tryz.prog.funcNamed "transom/transomlaw14.SeatRests" =some 6 by kernel_rfl).symm.trans hf)|>.symm
 obtain rfl:fn=Tryz.f6:=(Option.some.inj (Tryz.func6.symm.trans hfn)).symm
 refine ⟨looks_off,fun j t ht=> ?_⟩
 have hm:=Array.mem_of_getElem? ht
 rw [Tryz.params6] at hm
 have hall:∀ t ∈ (#[66,67]:Array TypeId),Tryz.prog.wantsStandIn t=false:=by decide +kernel
 exact hall t hm
theorem card:Rows.SeatRestsCardSaid:=
 Claim7.holds_tied_plain_at .later [] _ _ _ _ said (fun _ h=> by cases h) (by kernel_rfl) (fun _ h=> by cases h) seatRests_row_tie rfl ⟨rfl,rfl⟩ (by kernel_rfl) rfl plain (by kernel_rfl)
#print axioms card
end Go.Proofs.YtkepkcjjenidgaaGreatDoor.lawSeatRests
