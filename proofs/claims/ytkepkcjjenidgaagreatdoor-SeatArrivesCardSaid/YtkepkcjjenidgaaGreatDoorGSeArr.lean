/- What SeatArrives is asked of, as it comes in. No condition. The law SeatArrives: it answers true. Conditions: rows that there can be; the table of the instructions' parts lies there. The card of SeatArrives: what arrives changes the guest's boxes alone, stamped with its own clock; for every partition, few images, every script of 30 acts and 60 cycles each at most. -/
import Derived.Test.YtkepkcjjenidgaaGreatDoorGCard
import Derived.Test.YtkepkcjjenidgaaGreatDoorGSe2
import Derived.Test.YtkepkcjjenidgaaGreatDoorGSame
set_option linter.unusedVariables false
set_option maxRecDepth 100000
set_option maxHeartbeats 8000000
set_option linter.unusedSimpArgs false
namespace Go.Proofs.YtkepkcjjenidgaaGreatDoor
open Go.ChangeShapes Go.WideShapes Go.ChangeAt Go.RowKit Go.Joins Go.Deep KR
namespace Kn
section
variable {H:Type} {enc:TypeId × Value→H} {w:World} {base b:Nat} {sp:Nat→Bool} {hd:Bool} {r:Reach}
def sacells (g:SGuest) (iv ov nv lv:Value) (pn:Int) (body:ByteArray):Array Value:=#[.int .i64 g.x.mem,.int .i64 g.x.a1,.int .i64 g.x.a2,.int .i64 g.x.a3,iv,ov,nv,lv,.int .i64 pn,.string body]
theorem cells_sain:Tryz.prog.cellsOf 74=10:=by kernel_rfl
theorem open_sain {v:Value} {d:DataW H} {p:List MemPlace} (hv:Value.okWide Tryz.prog w r base 74 v) (h:DataW.Trod enc Tryz.prog w b sp hd 74 v d p):
 ∃ g iv ov nv lv l pn body,v=.agg (sacells g iv ov nv lv pn body)∧Rd 1 strCells w iv g.images∧Rd 5 Chan.cells w ov g.outs∧Rd 5 Chan.cells w nv g.ins_∧Rd 3 SDeed.cells w lv l∧PartOk g.x∧(∀ a ∈ l,a.body.size ∈ d.weights Tryz.prog 74)∧body.size ∈ d.weights Tryz.prog 74:=by
 obtain ⟨cs,rfl,hsz⟩:=okWide_struct Tryz.underlying74 hv
 rw [cells_sain] at hsz
 obtain ⟨fuel,hf⟩:=h
 obtain ⟨l0⟩:=cs
 match l0,hsz with
 |[c0,c1,c2,c3,c4,c5,c6,c7,c8,c9],_=>
  obtain ⟨xs,n,_,hx2,_,hlen,hge⟩:=DataW.trod_struct Tryz.underlying74 hf
  have hx:xs.length=4:=hlen
  have e0':DataW.trod enc Tryz.prog w b sp hd n 66 (([c0,c1,c2,c3,c4,c5,c6,c7,c8,c9].drop 0).take (Tryz.prog.cellsOf 66))=xs[0]? :=hge 0 _ rfl
  rw [List.getElem?_eq_getElem (by omega),cells_sguest] at e0'
  have e0:DataW.trod enc Tryz.prog w b sp hd n 66 [c0,c1,c2,c3,c4,c5,c6]=some (xs[0]'(by omega)):=e0'
  have e1':DataW.trod enc Tryz.prog w b sp hd n 67 (([c0,c1,c2,c3,c4,c5,c6,c7,c8,c9].drop 7).take (Tryz.prog.cellsOf 67))=xs[1]? :=hge 1 _ rfl
  rw [List.getElem?_eq_getElem (by omega),cells_sds] at e1'
  have e1:DataW.trod enc Tryz.prog w b sp hd n 67 [c7]=some (xs[1]'(by omega)):=e1'
  have e2':DataW.trod enc Tryz.prog w b sp hd n 3 (([c0,c1,c2,c3,c4,c5,c6,c7,c8,c9].drop 8).take (Tryz.prog.cellsOf 3))=xs[2]? :=hge 2 _ rfl
  rw [List.getElem?_eq_getElem (by omega),cells_int] at e2'
  have e2:DataW.trod enc Tryz.prog w b sp hd n 3 [c8]=some (xs[2]'(by omega)):=e2'
  have e3':DataW.trod enc Tryz.prog w b sp hd n 9 (([c0,c1,c2,c3,c4,c5,c6,c7,c8,c9].drop 9).take (Tryz.prog.cellsOf 9))=xs[3]? :=hge 3 _ rfl
  rw [List.getElem?_eq_getElem (by omega),cells_str] at e3'
  have e3:DataW.trod enc Tryz.prog w b sp hd n 9 [c9]=some (xs[3]'(by omega)):=e3'
  obtain ⟨g,rfl,rfl,rfl,rfl,hi,ho,hn,hp⟩:=open_sg e0
  obtain ⟨lv,l,hl1,hl2,hl3⟩:=open_sdeeds e1
  obtain rfl:c7=lv:=by injection hl1
  obtain ⟨pn,rfl,_⟩:=open_int' e2
  obtain ⟨body,rfl,hs⟩:=open_str' e3
  obtain rfl:=(Prod.mk.inj hx2).1
  refine ⟨g,_,_,_,_,l,pn,body,rfl,hi,ho,hn,hl2,hp,fun a ha=> ?_,?_⟩
  · unfold DataW.weights
    rw [Tryz.underlying74]
    dsimp only
    refine DataW.weights_mem_each (j:=1) (t:=67) (d:=xs[1].1) (by rfl) ?_ _ (hl3 a ha)
    rw [List.getElem?_map,List.getElem?_eq_getElem (by omega)]
    rfl
  · unfold DataW.weights
    rw [Tryz.underlying74]
    dsimp only
    refine DataW.weights_mem_each (j:=3) (t:=9) (d:=xs[3].1) (by rfl) ?_ body.size ?_
    · rw [List.getElem?_map,List.getElem?_eq_getElem (by omega)]
      rfl
    · rw [hs]
      simp only [DataW.weights,List.mem_singleton]
      exact Array.length_toList.symm
end
end Kn
end Go.Proofs.YtkepkcjjenidgaaGreatDoor
namespace Go.Proofs.YtkepkcjjenidgaaGreatDoor
open Go.RowKit KR RegT3
namespace Kn
theorem sain_guest (g:SGuest) (iv ov nv lv:Value) (pn:Int) (body:ByteArray):(sacells g iv ov nv lv pn body).extract 0 (0 + 7)=sgcells g iv ov nv:=by
 unfold sacells sgcells
 simp
theorem onesGS {w:World} {g:SGuest} {iv ov nv:Value} (hi:Rd 1 strCells w iv g.images) (ho:Rd 5 Chan.cells w ov g.outs) (hn:Rd 5 Chan.cells w nv g.ins_):∀ u ∈ (Value.agg (sgcells g iv ov nv)).cells.toList,u.oneCell'=true:=by
 obtain ⟨_,_,rfl,_⟩:=hi.shape
 obtain ⟨_,_,rfl,_⟩:=ho.shape
 obtain ⟨_,_,rfl,_⟩:=hn.shape
 intro u hu
 simp only [Value.cells,sgcells,List.mem_cons,List.not_mem_nil,or_false] at hu
 rcases hu with rfl|rfl|rfl|rfl|rfl|rfl|rfl <;> rfl
theorem bsend_last (c:Chan) (b:Box) (now:Int) (body:ByteArray) (h:b.l.length<(bsend c b now body).l.length):(bsend c b now body).l[(bsend c b now body).l.length - 1]? =some ⟨now,body⟩:=by
 unfold bsend at h ⊢
 split at h
 · exact absurd h (Nat.lt_irrefl _)
 · next h1=>
   rw [if_neg h1]
   split at h
   · next h2=>
     rw [if_pos h2]
     rfl
   · next h2=>
     rw [if_neg h2]
     split at h
     · next h3=>
       rw [if_pos h3]
       dsimp only
       rw [List.length_append,List.length_singleton,Nat.add_sub_cancel,List.getElem?_append_right (Nat.le_refl _),Nat.sub_self]
       rfl
     · exact absurd h (Nat.lt_irrefl _)
theorem sarr_box (s:Seat) (pn:Int) (body:ByteArray):∃ bx,sarrive s pn body={s with k:={s.k with box:=bx}}∧bx.length=s.k.box.length∧∀ (i:Nat) (q q':Box),(i:Int)=pn→s.k.box[i]? =some q→bx[i]? =some q'→q.l.length<q'.l.length→q'.l[q'.l.length - 1]? =some ⟨s.k.now,body⟩:=by
 have hsame:∀ (i:Nat) (q q':Box),(i:Int)=pn→s.k.box[i]? =some q→s.k.box[i]? =some q'→q.l.length<q'.l.length→q'.l[q'.l.length - 1]? =some ⟨s.k.now,body⟩:=fun i q q' _ h1 h2 h3=> by
  rw [h1] at h2
  cases h2
  exact absurd h3 (Nat.lt_irrefl _)
 unfold sarrive arrive
 split
 · exact ⟨s.k.box,rfl,rfl,hsame⟩
 · next hr=>
   split
   · next c b hc hb=>
     refine ⟨_,rfl,by rw [List.length_set],fun i q q' hi h1 h2 h3=> ?_⟩
     have hin:i=pn.toNat:=by omega
     subst hin
     rw [List.getElem?_set_self',h1] at h2
     rw [hb] at h1
     cases h1
     cases h2
     exact bsend_last _ _ _ _ h3
   · exact ⟨s.k.box,rfl,rfl,hsame⟩
theorem LSeatArrives (g:SGuest) (iv ov nv lv:Value) (l:List SDeed) (pn:Int) (body:ByteArray) (w:World) (hi:Rd 1 strCells w iv g.images) (ho:Rd 5 Chan.cells w ov g.outs) (hn:Rd 5 Chan.cells w nv g.ins_) (hl:Rd 3 SDeed.cells w lv l) (hx:PartOk g.x) (hs:SmallSDeeds l) (hsb:body.size≤140737488355328) (hT:Tab w):
 Calls Tryz.prog 5 #[.agg (sacells g iv ov nv lv pn body)] w (Gives (.bool true) w):=by
 obtain ⟨la,lc,rfl,hlc,hlm⟩:=hl.shape
 have HT:=hU (fun W (h:Below w.heap.size w W)=> hT.below h)
 have HI:=hU (fun W (h:Below w.heap.size w W)=> hi.below h)
 have HO:=hU (fun W (h:Below w.heap.size w W)=> ho.below h)
 have HN:=hU (fun W (h:Below w.heap.size w W)=> hn.below h)
 have HD:=hU (fun W (h:Below w.heap.size w W)=> hl.below h)
 have HON:=hU (onesGS hi ho hn)
 clear hi ho hn hl hT
 obtain ⟨Wn,hW0,hb0,HP⟩:=nb1 (W:=w) (.cells (sacells g iv ov nv (.slice la l.length lc) pn body) 74) rfl
 have HB:=hU hb0
 have HPo:=HP
 clear hb0
 obtain ⟨bHQ,hab,habHQ⟩:=nbz HB
 have hxHPHQ:=nlt HP hab
 obtain ⟨Wn,hWn,hba,HQ⟩:=nb1 (W:=Wn) (.cells #[.int .i64 0,.int .i64 0,.int .i64 0,.int .i64 0,.slice none 0 0,.slice none 0 0,.slice none 0 0] 66) hab
 replace HP:=nB hba HP
 replace HB:=nW hba HB
 clear hba
 go_enter Tryz.func5,Tryz.ntmps5
 repeat' (first
  |(rw [hW0];clear hW0)
  |(rw [hWn,hab];clear hWn hab)
  |(refine wpList_load (t:=66) (v:=.agg (sgcells g iv ov nv)) rfl rfl rfl (run_load_part aggSGuest HPo.out (sain_guest ..) rfl) ?_;clear HPo)
  |(refine wpList_store (t:=66) (v:=.agg (sgcells g iv ov nv)) (off:=0) (new:=sgcells g iv ov nv) rfl rfl rfl rfl aggSGuest.size HQ.out rfl (show 0 + 7≤7 by decide) HON.out rfl ?_;intro Wn hp
    replace HB:=pW hp HB
    replace HP:=pT hp HQ HP
    replace HQ:=pA hp
    clear hp
    have p7:Wn.cell? ⟨w.heap.size,7,none⟩=some (.slice la l.length lc):=hcell HP.out 7
    have p8:Wn.cell? ⟨w.heap.size,8,none⟩=some (.int .i64 pn):=hcell HP.out 8
    have p9:Wn.cell? ⟨w.heap.size,9,none⟩=some (.string body):=hcell HP.out 9)
  |go_values|go_skip|go_guarded|(with_reducible refine wg ?_)|go_step|go_upon)
 clear HON p7 p8 p9 HP
 refine (LShownS _ (HT.out _ HB.out)).mono ?_
 rintro er Wn ⟨rfl,hb⟩
 replace HQ:=nB hb HQ
 replace HB:=nW hb HB
 clear hb
 dsimp only
 repeat' (first
  |(refine wpList_load (t:=66) (v:=.agg (sgcells g iv ov nv)) rfl rfl rfl (run_load_whole aggSGuest HQ.out rfl) ?_)
  |go_values|go_skip|go_guarded|(with_reducible refine wg ?_)|go_step|go_upon)
 refine (LFewS g iv ov nv _ (HI.out _ HB.out) (HO.out _ HB.out) (HN.out _ HB.out)).mono ?_
 rintro er Wn ⟨rfl,hb⟩
 replace HQ:=nB hb HQ
 replace HB:=nW hb HB
 clear hb
 dsimp only
 cases hfew:fewS g
 · repeat' (first|go_values|go_skip|go_guarded|(with_reducible refine wg ?_)|go_step|go_upon)
   go_ret
   exact gives_of rfl HB.out
 have HG:=hU (few_okS hfew hx)
 clear hfew
 repeat' (first
  |(refine wpList_load (t:=66) (v:=.agg (sgcells g iv ov nv)) rfl rfl rfl (run_load_whole aggSGuest HQ.out rfl) ?_)
  |go_values|go_skip|go_guarded|(with_reducible refine wg ?_)|go_step|go_upon)
 refine (SSPlays g iv ov nv (.slice la l.length lc) l _ (HI.out _ HB.out) (HO.out _ HB.out) (HN.out _ HB.out) (HD.out _ HB.out) HG.out hs (HT.out _ HB.out)).mono ?_
 rintro er Wn ⟨vS,rfl,⟨yS,bsS,rfl,hl⟩,hb⟩
 replace HQ:=nB hb HQ
 replace HB:=nW hb HB
 clear hb
 have HLS:=hU hl
 clear hl
 dsimp only
 obtain ⟨s,hss⟩:∃ s,splays g l=s:=⟨_,rfl⟩
 have HGD:Hid (SGood 1800 s):=hU (by rw [← hss];exact splays_good HG.out hs)
 rw [hss] at HLS ⊢
 clear hss HI HO HN HD hs
 obtain ⟨bHS,hab,habHS⟩:=nbz HB
 have hxHQHS:=nlt HQ hab
 obtain ⟨Wn,hWn,hba,HS⟩:=nb1 (W:=Wn) (.cells #[.slice none 0 0,.slice none 0 0,.int .i64 0,.slice none 0 0,.slice none 0 0,.int .i64 0,.slice none 0 0,.int .u64 0,.slice none 0 0,.slice none 0 0,.slice none 0 0,.slice none 0 0,.string ⟨#[]⟩,.slice none 0 0,.slice none 0 0,.int .i64 0,.int .i64 0,.int .i64 0,.int .i64 0] 58) hab
 replace HQ:=nB hba HQ
 replace HLS:=nL hba HLS
 replace HB:=nW hba HB
 clear hba
 have HO:=hU (onesS HLS.out)
 repeat' (first
  |(rw [hWn,hab];clear hWn hab)
  |(refine wpList_store (t:=58) (v:=.agg (scells yS s)) (off:=0) (new:=scells yS s) rfl rfl rfl rfl aggSeat.size HS.out rfl (show 0 + 19≤19 by decide) HO.out rfl ?_;intro Wn hp
    replace HB:=pW hp HB
    replace HQ:=pT hp HS HQ
    replace HLS:=pL hp HS HLS noSeat
    replace HS:=pA hp
    clear hp)
  |(refine wpList_load (t:=58) (v:=.agg (scells yS s)) rfl rfl rfl (run_load_whole aggSeat HS.out rfl) ?_)
  |go_values|go_skip|go_guarded|(with_reducible refine wg ?_)|go_step|go_upon)
 clear HO
 obtain ⟨bx,hbx,hbl,hlast⟩:=sarr_box s pn body
 have e4:=SArrives (.agg (scells yS s)) s pn body Wn ⟨yS,bsS,rfl,HLS.out⟩ (by have:=HGD.out.k.bl;omega) (by have:=HGD.out.k.il;omega) (fun q hq=> by have:=HGD.out.k.bn q hq;omega)
 rw [hbx] at e4
 have HST:=hU e4
 have HLT:=hU hlast
 have HBL:=hU hbl
 clear e4 hbx hlast hbl
 refine (HST.out).mono ?_
 rintro er Wn ⟨vN,rfl,⟨yN,bsN,rfl,hl⟩,hb⟩
 replace HQ:=nB hb HQ
 replace HS:=nB hb HS
 replace HLS:=nL hb HLS
 replace HB:=nW hb HB
 clear hb
 have HLN:=hU hl
 clear hl
 dsimp only
 clear HST
 obtain ⟨xa,xc,hxa,_,hxm⟩:=HLS.out.bx.shape
 obtain ⟨za,zc,hza,_,_⟩:=HLN.out.bx.shape
 have hs6:bsN.length=bsS.length:=by
  have h1:=congrArg List.length HLN.out.bse
  have h2:=congrArg List.length HLS.out.bse
  rw [List.length_map] at h1 h2
  rw [h1,h2]
  exact HBL.out
 rw [hs6] at hza
 have HXA:=hU hxa
 have HZA:=hU hza
 have HS6:=hU hs6
 clear hxa hza hs6
 obtain ⟨bHN2,hab,habHN2⟩:=nbz HB
 have hxHQHN2:=nlt HQ hab
 have hxHSHN2:=nlt HS hab
 obtain ⟨Wn,hWn,hba,HN2⟩:=nb1 (W:=Wn) (.cells #[.slice none 0 0,.slice none 0 0,.int .i64 0,.slice none 0 0,.slice none 0 0,.int .i64 0,.slice none 0 0,.int .u64 0,.slice none 0 0,.slice none 0 0,.slice none 0 0,.slice none 0 0,.string ⟨#[]⟩,.slice none 0 0,.slice none 0 0,.int .i64 0,.int .i64 0,.int .i64 0,.int .i64 0] 58) hab
 replace HQ:=nB hba HQ
 replace HS:=nB hba HS
 replace HLS:=nL hba HLS
 replace HLN:=nL hba HLN
 replace HB:=nW hba HB
 clear hba
 have HO:=hU (onesS HLN.out)
 repeat' (first
  |(rw [hWn,hab];clear hWn hab)
  |(refine wpList_store (t:=58) (v:=.agg (scells yN {s with k:={s.k with box:=bx}})) (off:=0) (new:=scells yN {s with k:={s.k with box:=bx}}) rfl rfl rfl rfl aggSeat.size HN2.out rfl (show 0 + 19≤19 by decide) HO.out rfl ?_;intro Wn hp
    replace HB:=pW hp HB
    replace HQ:=pT hp HN2 HQ
    replace HS:=pO hp HS
    replace HLS:=pL hp HN2 HLS noSeat
    replace HLN:=pL hp HN2 HLN noSeat
    replace HN2:=pA hp
    clear hp
    have a17:Wn.cell? ⟨bHS,17,none⟩=some (.int .i64 s.st):=hcell HS.out 17
    have a18:Wn.cell? ⟨bHS,18,none⟩=some (.int .i64 s.boots):=hcell HS.out 18
    have a11:Wn.cell? ⟨bHS,11,none⟩=some (.slice xa bsS.length xc):=(hcell HS.out 11).trans (congrArg some HXA.out)
    have n17:Wn.cell? ⟨bHN2,17,none⟩=some (.int .i64 s.st):=hcell HN2.out 17
    have n18:Wn.cell? ⟨bHN2,18,none⟩=some (.int .i64 s.boots):=hcell HN2.out 18
    have n11:Wn.cell? ⟨bHN2,11,none⟩=some (.slice za bsS.length zc):=(hcell HN2.out 11).trans (congrArg some HZA.out))
  |go_values|go_skip|go_guarded|(with_reducible refine wg ?_)|go_step|go_upon)
 clear HO
 clear a17 a18 n17 n18 a11 n11
 rcases (by omega:pn<0∨(0≤pn∧(bsS.length:Int)≤pn)∨(0≤pn∧pn<(bsS.length:Int))) with hp1|⟨hp1,hp2⟩|⟨hp1,hp2⟩
 case' inl=>
  have d1:decide (0≤pn)=false:=by simp;omega
  refine wp_region_noPanic ?_
  refine go0 (S:=fun W=> W.cell? ⟨bHN2,11,none⟩=some (.slice za bsS.length zc)∧W.cell? ⟨bHS,11,none⟩=some (.slice xa bsS.length xc)) [] (⟨(hcell HN2.out 11).trans (congrArg some HZA.out),(hcell HS.out 11).trans (congrArg some HXA.out)⟩) fun hS=> ?_
  refine tp 0 ?_;(try simp only [acts])
  refine tp 1 ?_;(try simp only [acts])
  refine tp 2 ?_;(try simp only [acts])
  refine tn 3 ?_;(try simp only [acts])
  refine tn 4 ?_;(try simp only [acts])
  refine tn 5 ?_;(try simp only [acts])
  refine tn 6 ?_;(try simp only [acts])
  refine tn 7 ?_;(try simp only [acts])
  refine tn 8 ?_;(try simp only [acts])
  refine tp 9 ?_;(try simp only [acts])
  refine tp 10 ?_;(try simp only [acts])
  refine tn 11 ?_;(try simp only [acts])
  refine tn 12 ?_;(try simp only [acts])
  refine tn 13 ?_;(try simp only [acts])
  refine tn 14 ?_;(try simp only [acts])
  refine tn 15 ?_;(try simp only [acts])
  refine tn 16 ?_;(try simp only [acts])
  refine tn 17 ?_;(try simp only [acts])
  refine tn 18 ?_;(try simp only [acts])
  refine tn 19 ?_;(try simp only [acts])
  refine tn 20 ?_;(try simp only [acts])
  refine tn 21 ?_;(try simp only [acts])
  refine tn 22 ?_;(try simp only [acts])
  refine tn 23 ?_;(try simp only [acts])
  refine tn 24 ?_;(try simp only [acts])
  refine tn 25 ?_;(try simp only [acts])
  refine tn 26 ?_;(try simp only [acts])
  refine tn 27 ?_;(try simp only [acts])
  refine tp 28 ?_;(try simp only [acts])
  refine doneL (by kernel_rfl) (NoPanic.normal ?_) _
  clear hS
  obtain ⟨Wm,hWd⟩:=exW Wn.drew
  replace HQ:=dB hWd HQ
  replace HS:=dB hWd HS
  replace HN2:=dB hWd HN2
  replace HLS:=dL hWd HLS
  replace HLN:=dL hWd HLN
  replace HB:=dW hWd HB
  rw [hWd]
  clear hWd
  obtain ⟨Wn,rfl⟩:∃ Wn,Wn=Wm:=⟨_,rfl⟩
 case' inr.inl=>
  have d1:decide (0≤pn)=true:=by simp [hp1]
  have d2:decide (pn<(bsS.length:Int))=false:=by simp;omega
  refine wp_region_noPanic ?_
  refine go0 (S:=fun W=> W.cell? ⟨bHN2,11,none⟩=some (.slice za bsS.length zc)∧W.cell? ⟨bHS,11,none⟩=some (.slice xa bsS.length xc)) [] (⟨(hcell HN2.out 11).trans (congrArg some HZA.out),(hcell HS.out 11).trans (congrArg some HXA.out)⟩) fun hS=> ?_
  refine tp 0 ?_;(try simp only [acts])
  refine tp 1 ?_;(try simp only [acts])
  refine tp 2 ?_;(try simp only [acts])
  refine tp 3 ?_;(try simp only [acts])
  refine tp 4 ?_;(try simp only [acts])
  refine tp 5 ?_;(try simp only [acts])
  refine tl 6 ?_;(try simp only [acts])
  refine tp 7 ?_;(try simp only [acts])
  refine tp 8 ?_;(try simp only [acts])
  refine tp 9 ?_;(try simp only [acts])
  refine tp 10 ?_;(try simp only [acts])
  refine tn 11 ?_;(try simp only [acts])
  refine tn 12 ?_;(try simp only [acts])
  refine tn 13 ?_;(try simp only [acts])
  refine tn 14 ?_;(try simp only [acts])
  refine tn 15 ?_;(try simp only [acts])
  refine tn 16 ?_;(try simp only [acts])
  refine tn 17 ?_;(try simp only [acts])
  refine tn 18 ?_;(try simp only [acts])
  refine tn 19 ?_;(try simp only [acts])
  refine tn 20 ?_;(try simp only [acts])
  refine tn 21 ?_;(try simp only [acts])
  refine tn 22 ?_;(try simp only [acts])
  refine tn 23 ?_;(try simp only [acts])
  refine tn 24 ?_;(try simp only [acts])
  refine tn 25 ?_;(try simp only [acts])
  refine tn 26 ?_;(try simp only [acts])
  refine tn 27 ?_;(try simp only [acts])
  refine tp 28 ?_;(try simp only [acts])
  refine doneL (by kernel_rfl) (NoPanic.normal ?_) _
  clear hS
  obtain ⟨Wm,hWd⟩:=exW Wn.drew
  replace HQ:=dB hWd HQ
  replace HS:=dB hWd HS
  replace HN2:=dB hWd HN2
  replace HLS:=dL hWd HLS
  replace HLN:=dL hWd HLN
  replace HB:=dW hWd HB
  rw [hWd]
  clear hWd
  obtain ⟨Wn,rfl⟩:∃ Wn,Wn=Wm:=⟨_,rfl⟩
 case' inr.inr=>
  have d1:decide (0≤pn)=true:=by simp [hp1]
  have d2:decide (pn<(bsS.length:Int))=true:=by simp [hp2]
  obtain ⟨i,hi⟩:∃ i:Nat,(i:Int)=pn:=⟨pn.toNat,by omega⟩
  subst hi
  have hil:i<bsS.length:=by omega
  obtain ⟨⟨p1,m1,z1⟩,hx1⟩:∃ x,bsS[i]? =some x:=⟨_,List.getElem?_eq_getElem hil⟩
  obtain ⟨⟨p2,m2,z2⟩,hx2⟩:∃ x,bsN[i]? =some x:=⟨_,List.getElem?_eq_getElem (by have:=HS6.out;omega)⟩
  have hq1:=HLS.out.bx
  have hq2:=HLN.out.bx
  rw [HXA.out] at hq1
  rw [HZA.out] at hq2
  obtain ⟨g1,o1,hg1,_,hc1⟩:=hq1.elem.2.2.2 i _ hx1
  obtain ⟨g2,o2,hg2,_,hc2⟩:=hq2.elem.2.2.2 i _ hx2
  rw [hg1] at HXA
  rw [hg2] at HZA
  have c0:Wn.cell? ⟨g1,o1 + i * 2,none⟩=some (.slice p1 z1.l.length m1):=hc1 Wn (Below.refl _ _) 0 _ rfl
  have e0:Wn.cell? ⟨g2,o2 + i * 2,none⟩=some (.slice p2 z2.l.length m2):=hc2 Wn (Below.refl _ _) 0 _ rfl
  have hb1:s.k.box[i]? =some z1:=by
   have e1:=congrArg (fun l=> l[i]?) HLS.out.bse
   simp only [List.getElem?_map,hx1,Option.map_some] at e1
   exact e1.symm
  have hb2:bx[i]? =some z2:=by
   have e1:=congrArg (fun l=> l[i]?) HLN.out.bse
   simp only [List.getElem?_map,hx2,Option.map_some] at e1
   exact e1.symm
  have HLT2:=hU (fun h=> HLT.out i z1 z2 rfl hb1 hb2 h)
  have HOK:=hU (HLN.out.ok _ (List.mem_of_getElem? hx2))
  clear hx1 hx2 hq1 hq2 hg1 hg2 hc1 hc2 hb1 hb2
  rcases Decidable.em (z1.l.length<z2.l.length) with hlt|hlt
  case' inl=>
   have d3:decide (z1.l.length<z2.l.length)=true:=decide_eq_true hlt
   have d4:decide ((z1.l.length:Int)<(z2.l.length:Int))=true:=decide_eq_true (by omega)
   refine wp_region_noPanic ?_
   refine go0 (S:=fun W=> W.cell? ⟨bHN2,11,none⟩=some (.slice (some ⟨g2,o2,none⟩) bsS.length zc)∧W.cell? ⟨bHS,11,none⟩=some (.slice (some ⟨g1,o1,none⟩) bsS.length xc)∧W.cell? ⟨g1,o1 + i * 2,none⟩=some (.slice p1 z1.l.length m1)∧W.cell? ⟨g2,o2 + i * 2,none⟩=some (.slice p2 z2.l.length m2)) [] (⟨(hcell HN2.out 11).trans (congrArg some HZA.out),(hcell HS.out 11).trans (congrArg some HXA.out),c0,e0⟩) fun hS=> ?_
   refine tp 0 ?_;(try simp only [acts])
   refine tp 1 ?_;(try simp only [acts])
   refine tp 2 ?_;(try simp only [acts])
   refine tp 3 ?_;(try simp only [acts])
   refine tp 4 ?_;(try simp only [acts])
   refine tp 5 ?_;(try simp only [acts])
   refine tl 6 ?_;(try simp only [acts])
   refine tp 7 ?_;(try simp only [acts])
   refine tp 8 ?_;(try simp only [acts])
   refine tp 9 ?_;(try simp only [acts])
   refine tp 10 ?_;(try simp only [acts])
   refine tp 11 ?_;(try simp only [acts])
   refine tp 12 ?_;(try simp only [acts])
   refine tl 13 ?_;(try simp only [acts])
   refine tp 14 ?_;(try simp only [acts])
   refine tp 15 ?_;(try simp only [acts])
   refine tp 16 ?_;(try simp only [acts])
   refine tl 17 ?_;(try simp only [acts])
   refine tp 18 ?_;(try simp only [acts])
   refine tp 19 ?_;(try simp only [acts])
   refine tp 20 ?_;(try simp only [acts])
   refine tl 21 ?_;(try simp only [acts])
   refine tp 22 ?_;(try simp only [acts])
   refine tp 23 ?_;(try simp only [acts])
   refine tp 24 ?_;(try simp only [acts])
   refine tl 25 ?_;(try simp only [acts])
   refine tp 26 ?_;(try simp only [acts])
   refine tp 27 ?_;(try simp only [acts])
   refine tp 28 ?_;(try simp only [acts])
   refine doneL (by kernel_rfl) (NoPanic.normal ?_) _
   clear hS
   obtain ⟨m,hm⟩:∃ m:Msg,m=⟨s.k.now,body⟩:=⟨_,rfl⟩
   have hj2:=HLT2.out hlt
   rw [← hm] at hj2
   have HMM:=hU hm
   clear hm
   obtain ⟨j,hj⟩:∃ j,z2.l.length=j + 1:=⟨z2.l.length - 1,by omega⟩
   rw [show z2.l.length - 1=j by omega] at hj2
   have hq3:=HOK.out
   unfold BoxOk at hq3
   dsimp only at hq3
   obtain ⟨_,h31,h32,h33⟩:=hq3.elem
   obtain ⟨g3,o3,rfl,_,hc3⟩:=h33 j _ hj2
   have q0:∀ k u,m.cells[k]? =some u→Wn.cell? ⟨g3,o3 + j * 2 + k,none⟩=some u:=hc3 Wn (Below.refl _ _)
   have hjw:IntKind.i64.wrap ((z2.l.length:Int) - 1)=(j:Int):=by rw [IntKind.wrap_i64];omega
   have hjw2:wrap64 ((z2.l.length:Int) - 1)=(j:Int):=by unfold wrap64;omega
   have hjl:(j:Int)<(z2.l.length:Int):=by omega
   have hjn:j<z2.l.length:=by omega
   clear hq3 h31 h32 h33 hc3 hj2 HLT2 HOK hj
   repeat' (first|go_values|go_skip|go_guarded|(with_reducible refine wg ?_)|go_step|go_upon)
   refine wp_region_noPanic ?_
   refine go0 (S:=fun W=> W.cell? ⟨bHN2,11,none⟩=some (.slice (some ⟨g2,o2,none⟩) bsS.length zc)∧W.cell? ⟨g2,o2 + i * 2,none⟩=some (.slice (some ⟨g3,o3,none⟩) z2.l.length m2)∧∀ k u,m.cells[k]? =some u→W.cell? ⟨g3,o3 + j * 2 + k,none⟩=some u) [19] (⟨(hcell HN2.out 11).trans (congrArg some HZA.out),e0,q0⟩) fun hS=> ?_
   obtain ⟨Wm,hWd⟩:=exW Wn.drew
   replace HQ:=dB hWd HQ
   replace HS:=dB hWd HS
   replace HN2:=dB hWd HN2
   replace HLS:=dL hWd HLS
   replace HLN:=dL hWd HLN
   replace HB:=dW hWd HB
   rw [hWd] at hS ⊢
   clear hWd
   obtain ⟨Wn,rfl⟩:∃ Wn,Wn=Wm:=⟨_,rfl⟩
   clear c0 e0 q0
   refine tp 0 ?_;(try simp only [acts])
   refine tp 1 ?_;(try simp only [acts])
   refine tl 2 ?_;(try simp only [acts])
   refine tp 3 ?_;(try simp only [acts])
   refine tp 4 ?_;(try simp only [acts])
   refine tp 5 ?_;(try simp only [acts])
   refine tl 6 ?_;(try simp only [acts])
   refine tp 7 ?_;(try simp only [acts])
   refine tp 8 ?_;(try simp only [acts])
   refine tl 9 ?_;(try simp only [acts])
   refine tp 10 ?_;(try simp only [acts])
   refine tp 11 ?_;(try simp only [acts])
   refine tp 12 ?_;(try simp only [acts])
   refine tl 13 ?_;(try simp only [acts])
   refine tp 14 ?_;(try simp only [acts])
   refine tp 15 ?_;(try simp only [acts])
   refine tp 16 ?_;(try simp only [acts])
   refine tv 17 (.agg m.cells) (fun W hSW=> run_val_load rfl rfl (run_load_arr aggMsg rfl hSW.2.2)) ?_;(try simp only [acts])
   refine ro 18 fun K hK=> ?_
   go_simp
   obtain ⟨s1,s2,s3⟩:=hS
   obtain ⟨bHM,hab,habHM⟩:=nbz HB
   obtain ⟨W1,hWn,hba,HM1⟩:=nb1 (W:=Wn) (.cells #[.int .u64 0,.string ⟨#[]⟩] 80) hab
   rw [hWn,hab]
   clear hWn
   obtain ⟨Wd,hWd⟩:=exW W1.drew
   replace HM1:=dB hWd HM1
   replace hba:Below Wn.heap.size Wn Wd:=by rw [← hWd];exact hba.drew
   rw [hWd]
   clear hWd
   refine nx hK (⟨(hba.cell (p:=⟨bHN2,11,none⟩) (cell_lt s1)).trans s1,(hba.cell (p:=⟨g2,o2 + i * 2,none⟩) (cell_lt s2)).trans s2,fun k u hk=> (hba.cell (p:=⟨g3,o3 + j * 2 + k,none⟩) (cell_lt (s3 k u hk))).trans (s3 k u hk)⟩) fun hS=> ?_
   clear hK K s1 s2 s3 hS
   (try simp only [acts])
   refine ro 19 fun K hK=> ?_
   refine want rfl ?_
   refine wp_store (v:=.agg m.cells) (off:=0) (new:=m.cells) rfl rfl rfl aggMsg.size HM1.out rfl (show 0 + 2≤2 by decide) (onesMsg m) rfl ?_
   intro Wm hp
   have hb:=Below.put hba hp (Nat.le_of_eq hab)
   have HM:Hid (Wm.heap[bHM]? =some (.cells m.cells 80 (0,0))):=pA hp
   replace HQ:=nB hb HQ
   replace HS:=nB hb HS
   replace HN2:=nB hb HN2
   replace HLS:=nL hb HLS
   replace HLN:=nL hb HLN
   replace HB:=nW hb HB
   clear hb
   obtain ⟨Wn,rfl⟩:∃ Wn,Wn=Wm:=⟨_,rfl⟩
   clear hp hba HM1
   refine nt hK ?_
   clear hK K
   (try simp only [acts])
   refine doneL (by kernel_rfl) (NoPanic.normal ?_) _
   rw [HMM.out] at HM
   have m0:Wn.cell? ⟨bHM,0,none⟩=some (.int .u64 s.k.now):=hcell HM.out 0
   have m1:Wn.cell? ⟨bHM,1,none⟩=some (.string body):=hcell HM.out 1
   have a7:Wn.cell? ⟨bHS,7,none⟩=some (.int .u64 s.k.now):=hcell HS.out 7
   clear HM HMM hjw hjw2 hjl hjn
  case' inr=>
   have d3:decide (z1.l.length<z2.l.length)=false:=decide_eq_false hlt
   have d4:decide ((z1.l.length:Int)<(z2.l.length:Int))=false:=decide_eq_false (by omega)
   refine wp_region_noPanic ?_
   refine go0 (S:=fun W=> W.cell? ⟨bHN2,11,none⟩=some (.slice (some ⟨g2,o2,none⟩) bsS.length zc)∧W.cell? ⟨bHS,11,none⟩=some (.slice (some ⟨g1,o1,none⟩) bsS.length xc)∧W.cell? ⟨g1,o1 + i * 2,none⟩=some (.slice p1 z1.l.length m1)∧W.cell? ⟨g2,o2 + i * 2,none⟩=some (.slice p2 z2.l.length m2)) [] (⟨(hcell HN2.out 11).trans (congrArg some HZA.out),(hcell HS.out 11).trans (congrArg some HXA.out),c0,e0⟩) fun hS=> ?_
   refine tp 0 ?_;(try simp only [acts])
   refine tp 1 ?_;(try simp only [acts])
   refine tp 2 ?_;(try simp only [acts])
   refine tp 3 ?_;(try simp only [acts])
   refine tp 4 ?_;(try simp only [acts])
   refine tp 5 ?_;(try simp only [acts])
   refine tl 6 ?_;(try simp only [acts])
   refine tp 7 ?_;(try simp only [acts])
   refine tp 8 ?_;(try simp only [acts])
   refine tp 9 ?_;(try simp only [acts])
   refine tp 10 ?_;(try simp only [acts])
   refine tp 11 ?_;(try simp only [acts])
   refine tp 12 ?_;(try simp only [acts])
   refine tl 13 ?_;(try simp only [acts])
   refine tp 14 ?_;(try simp only [acts])
   refine tp 15 ?_;(try simp only [acts])
   refine tp 16 ?_;(try simp only [acts])
   refine tl 17 ?_;(try simp only [acts])
   refine tp 18 ?_;(try simp only [acts])
   refine tp 19 ?_;(try simp only [acts])
   refine tp 20 ?_;(try simp only [acts])
   refine tl 21 ?_;(try simp only [acts])
   refine tp 22 ?_;(try simp only [acts])
   refine tp 23 ?_;(try simp only [acts])
   refine tp 24 ?_;(try simp only [acts])
   refine tl 25 ?_;(try simp only [acts])
   refine tp 26 ?_;(try simp only [acts])
   refine tp 27 ?_;(try simp only [acts])
   refine tp 28 ?_;(try simp only [acts])
   refine doneL (by kernel_rfl) (NoPanic.normal ?_) _
   clear hS
   clear HLT2 HOK
   obtain ⟨Wm,hWd⟩:=exW Wn.drew
   replace HQ:=dB hWd HQ
   replace HS:=dB hWd HS
   replace HN2:=dB hWd HN2
   replace HLS:=dL hWd HLS
   replace HLN:=dL hWd HLN
   replace HB:=dW hWd HB
   rw [hWd]
   clear hWd
   obtain ⟨Wn,rfl⟩:∃ Wn,Wn=Wm:=⟨_,rfl⟩
   clear c0 e0
 all_goals
  obtain ⟨xb,xd,hxb,_,_⟩:=HLS.out.bx.shape
  have a11:Wn.cell? ⟨bHS,11,none⟩=some (.slice xb bsS.length xd):=(hcell HS.out 11).trans (congrArg some hxb)
  have HXB:=hU hxb
  clear hxb
  repeat' (first
   |(refine wpList_store1 (t:=52) (v:=.slice xb bsS.length xd) (off:=11) (new:=scells {yN with bx:=.slice xb bsS.length xd} s) rfl rfl rfl rfl oneSBox HN2.out rfl rfl (show 11 + 1≤19 by decide) rfl ?_;intro Wn hp
     replace HB:=pW hp HB
     replace HQ:=pT hp HN2 HQ
     replace HS:=pO hp HS
     replace HLS:=pL hp HN2 HLS noSeat
     replace HLN:=pL hp HN2 HLN noSeat
     replace HN2:=pA hp
     clear hp)
   |(refine wpList_load (t:=56) (v:=.agg (kcells {yN with bx:=.slice xb bsS.length xd} s.k)) rfl rfl rfl (run_load_part aggKern HN2.out (scells_kern _ _) rfl) ?_)
   |(refine wpList_load (t:=56) (v:=.agg (kcells yS s.k)) rfl rfl rfl (run_load_part aggKern HS.out (scells_kern _ _) rfl) ?_)
   |go_values|go_skip|go_guarded|(with_reducible refine wg ?_)|go_step|go_upon)
  have HLZ:Hid (LayAt Wn {yN with bx:=.slice xb bsS.length xd} bsS s.k):=hU ⟨HLN.out.p,HLN.out.t,HLN.out.s,HLN.out.pi,HLN.out.h,HLN.out.im,HLN.out.ou,HLN.out.ins_,by rw [← HXB.out];exact HLS.out.bx,HLS.out.bse,HLS.out.ok,HLN.out.tr,HLN.out.se⟩
  refine (SameKern (.agg (kcells {yN with bx:=.slice xb bsS.length xd} s.k)) (.agg (kcells yS s.k)) s.k _ ⟨_,bsS,rfl,HLZ.out⟩ ⟨yS,bsS,rfl,HLS.out⟩).mono ?_
  rintro er Wn ⟨rfl,hb⟩
  replace HQ:=nB hb HQ
  replace HS:=nB hb HS
  replace HN2:=nB hb HN2
  replace HLS:=nL hb HLS
  replace HLN:=nL hb HLN
  replace HB:=nW hb HB
  clear hb
  dsimp only
  repeat' (first|go_values|go_skip|go_guarded|(with_reducible refine wg ?_)|go_step|go_upon)
  go_ret
  exact gives_of rfl HB.out
end Kn
end Go.Proofs.YtkepkcjjenidgaaGreatDoor
namespace Go.Proofs.YtkepkcjjenidgaaGreatDoor.lawSeatArrives
open Go.ChangeShapes Go.WideShapes Go.ChangeAt Go.RowKit
theorem contract (H:Type) (enc:TypeId × Value→H) (W:World) (base:Nat) (args:Array Value) (ds gs:List (DataW H)) (before:List MemPlace)
 (hval:∀ (j:Nat) t v,Tryz.f5.params[j]? =some t→args[j]? =some v→Value.okWide Tryz.prog W .any base t v)
 (hW:DataW.Whole enc Tryz.prog Tryz.f5.params.toList Rows.seatArrivesSpec.vars false W args.toList ds gs before) (hL:laidMetH Tryz.prog Rows.seatArrivesRow.laid W)
 (hr:(DataW.weightsEach Tryz.prog (Tryz.f5.params.toList ++ (OpenSpec.ofChange Rows.seatArrivesSpec).bare.plain.varTypes Tryz.prog) (ds ++ gs)).all (· ≤reachBytes)=true):
 Calls Tryz.prog 5 args W fun e W'=> ∃ v,e=.returned v∧Rows.seatArrivesSpec.post enc Tryz.prog Tryz.f5 false true false false W args v W':=by
 have hW':=hW
 obtain ⟨p,q,hA0,hV,rfl,hfz,hnd⟩:=hW
 have hA:DataW.TrodAll enc Tryz.prog W 0 (fun _=> true) true Tryz.f5.params.toList args.toList ds p:=hA0
 rw [Tryz.params5] at hA hval
 obtain ⟨v0,d0,rfl,rfl,h0⟩:=trodAll_one hA
 obtain ⟨rfl,rfl⟩:=trodVars_none hV
 obtain ⟨g,iv,ov,nv,lv,l,pn,body,rfl,hi,ho,hn,hl,hx,hwl,hwb⟩:=Kn.open_sain (hval 0 74 v0 rfl rfl) h0
 have hsl:=Kn.sscript_small (j:=0) hr (by kernel_rfl) rfl hwl
 have hsb:=Kn.small_of (j:=0) hr (by kernel_rfl) rfl hwb
 refine (Kn.LSeatArrives g iv ov nv lv l pn body W hi ho hn hl hx hsl hsb (tab_of hL)).mono fun e W' ⟨he,hb⟩=> ?_
 subst he
 exact ⟨_,rfl,law_post (tb:=4) hW' rfl rfl rfl rfl (by kernel_rfl) Tryz.underlying4 laid_outB (by rw [Tryz.params5];decide +kernel) hb⟩
abbrev zeros:Array Value:=#[.agg #[.int .i64 0,.int .i64 0,.int .i64 0,.int .i64 0,.slice none 0 0,.slice none 0 0,.slice none 0 0,.slice none 0 0,.int .i64 0,.string ByteArray.empty]]
theorem laid_met (os:Os):laidMet Tryz.prog Rows.seatArrivesRow.laid ((laidWorld os).forCall (fun _ _=> 0) ⟨#[],zeros,[]⟩).memory:=
 laidMet_of_run' 8 (by kernel_rfl) (by kernel_rfl)
theorem reads (os:Os) {H:Type} (enc:TypeId × Value→H):∃ places,DataW.whole enc Tryz.prog ((laidWorld os).forCall (fun _ _=> 0) ⟨#[],zeros,[]⟩).memory Tryz.f5.params.toList Rows.seatArrivesSpec.vars false zeros.toList 8=some ([.agg [.agg [.agg [.lit (.int .i64 0),.agg [.lit (.int .i64 0),.lit (.int .i64 0),.lit (.int .i64 0)]],.nil,.nil,.nil],.nil,.lit (.int .i64 0),.lit (.string [])]],[],places):=
 ⟨[],by kernel_rfl⟩
theorem lifted (os:Os) (started:os.Started) (H:Type) (enc:TypeId × Value→H) (F:Stop.Interp):
 ReturnsInHanded {} Tryz.checked os 5 .any ((OpenSpec.ofChange Rows.seatArrivesSpec).preRow enc Tryz.prog Tryz.f5 Rows.seatArrivesRow.domain false Rows.seatArrivesRow.laid) (((OpenSpec.ofChange Rows.seatArrivesSpec).at F).post enc Tryz.prog Tryz.f5 false true false false):=by
 obtain ⟨places,hx⟩:=reads os enc
 refine returnsInHanded_of_row (C:=Tryz.checked) (s:=OpenSpec.ofChange Rows.seatArrivesSpec) own started (by kernel_rfl) Tryz.func5
  (witness_row_at (enc:=enc) (C:=Tryz.checked) false (laidWorld os) zeros rfl (by kernel_rfl) (by kernel_rfl) (by kernel_rfl)
    (OpenSpec.preRow_of_cond 8 hx (by kernel_rfl) (fun k hk=> by cases hk) (by kernel_rfl) (laid_met os))) ?_
 intro W base args ds gs before hval hW _ hcond hr hL _ _
 exact contract H enc W base args ds gs before hval hW hL hr
theorem j0:(Rows.seatArrivesRow.inPlace==Tryz.pinned.checked.prog.inPlace 5)=true:=by kernel_rfl
theorem j1:(Rows.seatArrivesRow.unfollowed==Tryz.pinned.checked.prog.unfollowed 5)=true:=by kernel_rfl
theorem j2:(Rows.seatArrivesRow.recurses==Tryz.pinned.checked.prog.recurses 5)=true:=by kernel_rfl
theorem j3:(Rows.seatArrivesRow.named==Tryz.pinned.checked.prog.varsNamed 5)=true:=by kernel_rfl
theorem facts:joinedFacts Tryz.pinned.checked.prog 5 Tryz.f5 (OpenSpec.ofChange Rows.seatArrivesSpec).bare Rows.seatArrivesRow=true:=by
 unfold joinedFacts
 rw [j0,j1,j2,j3]
 kernel_rfl
theorem said:Rows.SeatArrivesSaid:=
 OpenClaim.holds_of_cond 5 Tryz.f5 rfl rfl rfl rfl rfl rfl rfl ⟨rfl,rfl,rfl,rfl,rfl⟩ rfl rfl rfl rfl rfl (by kernel_rfl) Tryz.func5 facts
  (of_decide_eq_true (by kernel_rfl)) (by unfold Func.isWrapper;first|(rw [if_pos (by decide +kernel)];kernel_rfl)|(rw [if_neg (by decide +kernel)];exact ⟨rfl,rfl⟩))
  (fun os started H enc _ F=> by rw [OpenClaim.pre_eq_preRow];exact lifted os started H enc F)
theorem plain (f:FuncId) (fn:Func) (hf:Tryz.pinned.checked.prog.funcNamed "transom/transomlaw14.SeatArrives" =some f) (hfn:Tryz.pinned.checked.prog.funcs[f]? =some fn):
 false=Tryz.pinned.checked.prog.looks []∧∀ (j:Nat) t,fn.params[j]? =some t→Tryz.pinned.checked.prog.wantsStandIn t=false:=by
 obtain rfl:f=5:=Option.some.inj ((show Tryz.prog.funcNamed "transom/transomlaw14.SeatArrives" =some 5 by kernel_rfl).symm.trans hf)|>.symm
 obtain rfl:fn=Tryz.f5:=(Option.some.inj (Tryz.func5.symm.trans hfn)).symm
 refine ⟨looks_off,fun j t ht=> ?_⟩
 have hm:=Array.mem_of_getElem? ht
 rw [Tryz.params5] at hm
 have hall:∀ t ∈ (#[74]:Array TypeId),Tryz.prog.wantsStandIn t=false:=by decide +kernel
 exact hall t hm
theorem card:Rows.SeatArrivesCardSaid:=
 Claim7.holds_tied_plain_at .later [] _ _ _ _ said (fun _ h=> by cases h) (by kernel_rfl) (fun _ h=> by cases h) seatArrives_row_tie rfl ⟨rfl,rfl⟩ (by kernel_rfl) rfl plain (by kernel_rfl)
#print axioms card
end Go.Proofs.YtkepkcjjenidgaaGreatDoor.lawSeatArrives
