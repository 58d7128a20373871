/- seat.Cycle: a cycle of a seat. Conditions: the seat is right, and small; the table of the instructions' parts lies there. seat.Begin: a partition that begins. Conditions: few rows. -/
import Derived.Test.YtkepkcjjenidgaaGreatDoorGSe0
import Derived.Test.YtkepkcjjenidgaaGreatDoorGStep
set_option linter.unusedVariables false
set_option maxRecDepth 100000
set_option maxHeartbeats 8000000
set_option linter.unusedSimpArgs false
namespace Go.Proofs.YtkepkcjjenidgaaGreatDoor
open Go.RowKit KR RegT3
namespace Kn
theorem SCycle (x:Part) (v:Value) (s:Seat) (n:Nat) (w:World) (hv:SeatV w v s) (hg:SGood n s) (hn:n≤50000) (hx:PartOk x) (hT:Tab w):
 Calls Tryz.prog 28 #[.agg x.cells,v] w (GivesS (scycle x s) w):=by
 obtain ⟨y,bs,rfl,hl⟩:=hv
 obtain ⟨q0,q1,q2⟩:=three_new w w.heap.size (.cells x.cells 64) (.cells (scells y s) 58) (.cells #[.slice none 0 0,.slice none 0 0,.int .i64 0,.slice none 0 0,.slice none 0 0,.int .i64 0,.slice none 0 0,.int .u64 0,.slice none 0 0,.slice none 0 0,.slice none 0 0,.slice none 0 0,.string ⟨#[]⟩,.slice none 0 0,.slice none 0 0,.int .i64 0,.int .i64 0,.int .i64 0,.int .i64 0] 58) rfl
 have hb0:Below w.heap.size w (((w.alloc (.cells x.cells 64)).alloc (.cells (scells y s) 58)).alloc (.cells #[.slice none 0 0,.slice none 0 0,.int .i64 0,.slice none 0 0,.slice none 0 0,.int .i64 0,.slice none 0 0,.int .u64 0,.slice none 0 0,.slice none 0 0,.slice none 0 0,.slice none 0 0,.string ⟨#[]⟩,.slice none 0 0,.slice none 0 0,.int .i64 0,.int .i64 0,.int .i64 0,.int .i64 0] 58)):=bel
 obtain ⟨W0,hW0⟩:=exW (((w.alloc (.cells x.cells 64)).alloc (.cells (scells y s) 58)).alloc (.cells #[.slice none 0 0,.slice none 0 0,.int .i64 0,.slice none 0 0,.slice none 0 0,.int .i64 0,.slice none 0 0,.int .u64 0,.slice none 0 0,.slice none 0 0,.slice none 0 0,.slice none 0 0,.string ⟨#[]⟩,.slice none 0 0,.slice none 0 0,.int .i64 0,.int .i64 0,.int .i64 0,.int .i64 0] 58))
 rw [hW0] at q0 q1 q2 hb0
 have HX_0:=hU q0
 have HA_0:=hU q1
 have HR_0:=hU q2
 have HB_0:=hU hb0
 have HL_0:=hU (hl.below hb0)
 have e1:=SGoes (.agg (scells y s)) s W0 ⟨y,bs,rfl,HL_0.out⟩
 have HGO:=hU e1
 have HT:=hU (fun W (h:Below w.heap.size w W)=> hT.below h)
 have HG:=hU hg
 have HX:=hU hx
 clear q0 q1 q2 hb0 hl e1 hT hg hx
 go_enter Tryz.func28,Tryz.ntmps28
 repeat' (first
  |(rw [hW0];clear hW0)
  |(refine wpList_load (t:=58) (v:=.agg (scells y s)) rfl rfl rfl (run_load_whole aggSeat HA_0.out rfl) ?_)
  |go_values|go_skip|go_guarded|(with_reducible refine wg ?_)|go_step|go_upon)
 refine HGO.out.mono ?_
 rintro er W1 ⟨rfl,hb⟩
 have HX_1:=nB hb HX_0
 have HA_1:=nB hb HA_0
 have HR_1:=nB hb HR_0
 have HL_1:=nL hb HL_0
 have HB_1:=hU (HB_0.out.trans (hb.mono HB_0.out.size))
 clear hb HX_0 HA_0 HR_0 HL_0 HB_0 HGO
 dsimp only
 by_cases h1:s.st=1
 · have b1:(s.st==1)=true:=by simp [h1]
   have HS:=hU (show scycle x s=slooks x (sgoes s) from if_pos h1)
   have H1:=hU h1
   clear h1
   obtain ⟨b,hab,hbb⟩:∃ b,W1.heap.size=b∧w.heap.size + 1 + 1<b:=⟨_,rfl,hlt HR_1.out⟩
   obtain ⟨W2,hWn,hba,HK_l⟩:=nb1 (.cells #[y.p,y.t,.int .i64 s.k.t.left,y.s,y.pi,.int .i64 s.k.hs,y.h,.int .u64 s.k.now,y.im,y.ou,y.ins_,y.bx,.string s.k.cons,y.tr,y.se,.int .i64 s.k.want,.int .i64 s.k.gone,.int .i64 s.st,.int .i64 s.boots,.int .i64 x.mem,.int .i64 x.a1,.int .i64 x.a2,.int .i64 x.a3] 133) hab
   have HK_2:Hid (W2.heap[b]? =some (.cells (wcells y s x) 133 (0,0))):=HK_l
   clear HK_l
   have HR_2:=nB hba HR_1
   have HL_2:=nL hba HL_1
   have HB_2:=hU (HB_1.out.trans (hba.mono HB_1.out.size))
   have HE_2:Hid (KR.Kept b w W2):=hU (Kept.of HB_2.out)
   clear hba
   have e2:=SStep (.agg (kcells y s.k)) s.k W2 ⟨y,bs,rfl,HL_2.out⟩ (HG.out.k.ready (by omega)) (HT.out _ HB_2.out)
   obtain ⟨k2,hk2⟩:∃ k2,step s.k=k2:=⟨_,rfl⟩
   have HGK:Hid (Good (n + 1) k2):=hU (by rw [← hk2];exact HG.out.k.step)
   have HOU:Hid (k2.outs.length≤100):=hU (by rw [← hk2,step_outs HG.out.k];exact HG.out.ou)
   rw [hk2] at e2
   have HST:=hU e2
   have HSG:Hid (sgoes s=⟨k2,if k2.want=1 then 2 else if k2.want=2 then 3 else s.st,s.boots⟩):=hU (by unfold sgoes;rw [hk2])
   clear e2 hk2
   repeat' (first
    |(refine wpList_load (t:=58) (v:=.agg #[y.p,y.t,.int .i64 s.k.t.left,y.s,y.pi,.int .i64 s.k.hs,y.h,.int .u64 s.k.now,y.im,y.ou,y.ins_,y.bx,.string s.k.cons,y.tr,y.se,.int .i64 s.k.want,.int .i64 s.k.gone,.int .i64 s.st,.int .i64 s.boots]) rfl rfl rfl (run_load_whole aggSeat HA_1.out rfl) ?_)
    |(refine wpList_load (t:=64) (v:=.agg #[.int .i64 x.mem,.int .i64 x.a1,.int .i64 x.a2,.int .i64 x.a3]) rfl rfl rfl (run_load_whole aggPart HX_1.out rfl) ?_)
    |(rw [hWn,hab];clear hWn hab)
    |(refine wpList_load (t:=56) (v:=.agg (kcells y s.k)) rfl rfl rfl (run_load_part aggKern HK_2.out (wcells_kern _ _ _) rfl) ?_)
    |go_values|go_skip|go_guarded|(with_reducible refine wg ?_)|go_step|go_upon)
   clear HX_1 HA_1 HR_1 HL_1 HB_1
   refine HST.out.mono ?_
   rintro er W3 ⟨v3,rfl,⟨y3,bs3,rfl,hl3⟩,hb⟩
   have HK_3:=nB hb HK_2
   have HR_3:=nB hb HR_2
   have HE_3:=nE hb HE_2
   have HL_3:=hU hl3
   clear hb hl3 HK_2 HR_2 HE_2 HL_2 HB_2 HST
   have HON:=hU (onesK HL_3.out)
   dsimp only
   rcases (by omega:k2.want=1∨k2.want=2∨(k2.want ≠ 1∧k2.want ≠ 2)) with g|g|g
   case' inl=>
    have c1:(k2.want==1)=true:=by simp [g]
    have hs2:sgoes s=⟨k2,2,s.boots⟩:=by rw [HSG.out];rw [if_pos g]
    clear g
   case' inr.inl=>
    have c1:(k2.want==1)=false:=by simp [g]
    have c2:(k2.want==2)=true:=by simp [g]
    have hs2:sgoes s=⟨k2,3,s.boots⟩:=by rw [HSG.out];rw [if_neg (by omega),if_pos g]
    clear g
   case' inr.inr=>
    have c1:(k2.want==1)=false:=by simp [g.1]
    have c2:(k2.want==2)=false:=by simp [g.2]
    have hs2:sgoes s=⟨k2,s.st,s.boots⟩:=by rw [HSG.out];rw [if_neg g.1,if_neg g.2]
    clear g
   repeat' (first
    |(refine wpList_store (t:=56) (v:=.agg (kcells y3 k2)) (off:=0) (new:=wcells y3 ⟨k2,s.st,s.boots⟩ x) rfl rfl rfl rfl aggKern.size HK_3.out rfl (show 0 + 17≤23 by decide) HON.out rfl ?_;intro W4 hp
      have HK_4:Hid (W4.heap[b]? =some (.cells (wcells y3 ⟨k2,s.st,s.boots⟩ x) 133 (0,0))):=pA hp
      have HR_4:=pO hp HR_3
      have HE_4:=pK hp HE_3
      have HL_4:=pL hp HK_3 HL_3 noSWork
      have f15:W4.cell? ⟨b,15,none⟩=some (.int .i64 k2.want):=hcell HK_4.out 15
      clear hp HK_3 HR_3 HE_3 HL_3)
    |(refine wpList_store1 (t:=3) (v:=.int .i64 2) (off:=17) (new:=wcells y3 ⟨k2,2,s.boots⟩ x) rfl rfl rfl rfl oneInt HK_4.out rfl rfl (show 17 + 1≤23 by decide) rfl ?_;intro W5 hp
      have HK_5:Hid (W5.heap[b]? =some (.cells (wcells y3 (sgoes s) x) 133 (0,0))):=by rw [hs2];exact pA hp
      have HR_5:=pO hp HR_4
      have HE_5:=pK hp HE_4
      have HL_5:=pL hp HK_4 HL_4 noSWork
      clear hp HK_4 HR_4 HE_4 HL_4)
    |(refine wpList_store1 (t:=3) (v:=.int .i64 3) (off:=17) (new:=wcells y3 ⟨k2,3,s.boots⟩ x) rfl rfl rfl rfl oneInt HK_4.out rfl rfl (show 17 + 1≤23 by decide) rfl ?_;intro W5 hp
      have HK_5:Hid (W5.heap[b]? =some (.cells (wcells y3 (sgoes s) x) 133 (0,0))):=by rw [hs2];exact pA hp
      have HR_5:=pO hp HR_4
      have HE_5:=pK hp HE_4
      have HL_5:=pL hp HK_4 HL_4 noSWork
      clear hp HK_4 HR_4 HE_4 HL_4)
    |go_values|go_skip|go_guarded|(with_reducible refine wg ?_)|go_step|go_upon)
   all_goals
    (first|(obtain ⟨W5,rfl⟩:∃ W5,W5=W4:=⟨_,rfl⟩
            have HK_5:Hid (W5.heap[b]? =some (.cells (wcells y3 (sgoes s) x) 133 (0,0))):=by rw [hs2];exact HK_4
            have HR_5:=HR_4
            have HE_5:=HE_4
            have HL_5:=HL_4)|skip)
    clear HON HT
    have e5:=WLooks b x (sgoes s) W5 y3 bs3 HK_5.out (by rw [HSG.out];exact HL_5.out) HX.out.m0 HX.out.m1 (by rw [HSG.out];show k2.images.length≤_;have:=HGK.out.im;omega) (by rw [HSG.out];show k2.outs.length≤_;have:=HOU.out;omega) (by rw [HSG.out];show k2.ins_.length≤_;have:=HGK.out.il;omega) (by rw [HSG.out];show 0≤s.boots;have:=HG.out.b1;omega) (by rw [HSG.out];show s.boots≤_;have:=HG.out.b2;omega)
    rw [← HS.out] at e5
    refine e5.mono ?_
    rintro er W6 ⟨⟨vr,rfl⟩,⟨y6,bs6,hk6,hl6⟩,hke⟩
    have HR_6:=mB hke HR_5
    have HE_6:=mE hke HE_5
    have HK_6:=hU hk6
    have HL_6:=hU hl6
    have HB_6:=hU (Kept.low HE_6.out (by omega))
    clear hke hk6 hl6 HR_5 HE_5 HK_5 HL_5 e5
    dsimp only
    repeat' (first
     |(refine wpList_load (t:=58) (v:=.agg (scells y6 (scycle x s))) rfl rfl rfl (run_load_part aggSeat HK_6.out (wcells_seat _ _ _) rfl) ?_)
     |(refine wpList_store (t:=58) (v:=.agg (scells y6 (scycle x s))) (off:=0) (new:=(scells y6 (scycle x s))) rfl rfl rfl rfl aggSeat.size HR_6.out rfl (show 0 + 19≤19 by decide) (onesS HL_6.out) rfl ?_;intro W7 hp
       have HR_7:=pA hp
       have HL_7:=pL hp HR_6 HL_6 noSeat
       have HB_7:=hU (Below.put HB_6.out hp (by omega))
       clear hp HR_6 HL_6 HB_6)
     |go_values|go_skip|go_guarded|(with_reducible refine wg ?_)|go_step|go_upon)
    (try simp only [Exit.inBlock,Exit.then]);refine bodyPost_ret (res_cell Tryz.results28 aggSeat rfl HR_7.out rfl) rfl ?_
    exact ⟨_,rfl,⟨_,_,rfl,HL_7.out⟩,HB_7.out⟩
 · have b1:(s.st==1)=false:=by simp [h1]
   have HS:=hU (show scycle x s=s from if_neg h1)
   clear h1
   repeat' (first
    |(refine wpList_load (t:=58) (v:=.agg (scells y s)) rfl rfl rfl (run_load_whole aggSeat HA_1.out rfl) ?_;clear HA_1)
    |(refine wpList_store (t:=58) (v:=.agg (scells y s)) (off:=0) (new:=(scells y s)) rfl rfl rfl rfl aggSeat.size HR_1.out rfl (show 0 + 19≤19 by decide) (onesS HL_1.out) rfl ?_;intro W2 hp
      have HR_2:=pA hp
      have HL_2:=pL hp HR_1 HL_1 noSeat
      have HB_2:=hU (Below.put HB_1.out hp (by omega))
      clear hp HR_1 HL_1 HB_1)
    |go_values|go_skip|go_guarded|(with_reducible refine wg ?_)|go_step|go_upon)
   (try simp only [Exit.inBlock,Exit.then]);refine bodyPost_ret (res_cell Tryz.results28 aggSeat rfl HR_2.out rfl) rfl ?_
   rw [HS.out]
   exact ⟨_,rfl,⟨_,_,rfl,HL_2.out⟩,HB_2.out⟩
theorem SBegin (x:Part) (iv ov nv:Value) (images:List ByteArray) (outs ins_:List Chan) (w:World) (hi:Rd 1 strCells w iv images) (ho:Rd 5 Chan.cells w ov outs) (hn:Rd 5 Chan.cells w nv ins_) (h1:images.length≤1000000) (h2:outs.length≤1000000) (h3:ins_.length≤1000000) (m0: -9223372036854775808≤x.mem) (m1:x.mem≤9223372036854775807):
 Calls Tryz.prog 45 #[.agg x.cells,iv,ov,nv] w (GivesS (sbegin x images outs ins_) w):=by
 obtain ⟨q0,q1⟩:=two_new w w.heap.size (.cells x.cells 64) (.cells #[.slice none 0 0,.slice none 0 0,.int .i64 0,.slice none 0 0,.slice none 0 0,.int .i64 0,.slice none 0 0,.int .u64 0,.slice none 0 0,.slice none 0 0,.slice none 0 0,.slice none 0 0,.string ⟨#[]⟩,.slice none 0 0,.slice none 0 0,.int .i64 0,.int .i64 0,.int .i64 0,.int .i64 0] 58) rfl
 have hb0:Below w.heap.size w ((w.alloc (.cells x.cells 64)).alloc (.cells #[.slice none 0 0,.slice none 0 0,.int .i64 0,.slice none 0 0,.slice none 0 0,.int .i64 0,.slice none 0 0,.int .u64 0,.slice none 0 0,.slice none 0 0,.slice none 0 0,.slice none 0 0,.string ⟨#[]⟩,.slice none 0 0,.slice none 0 0,.int .i64 0,.int .i64 0,.int .i64 0,.int .i64 0] 58)):=bel
 obtain ⟨W0,hW0⟩:=exW ((w.alloc (.cells x.cells 64)).alloc (.cells #[.slice none 0 0,.slice none 0 0,.int .i64 0,.slice none 0 0,.slice none 0 0,.int .i64 0,.slice none 0 0,.int .u64 0,.slice none 0 0,.slice none 0 0,.slice none 0 0,.slice none 0 0,.string ⟨#[]⟩,.slice none 0 0,.slice none 0 0,.int .i64 0,.int .i64 0,.int .i64 0,.int .i64 0] 58))
 rw [hW0] at q0 q1 hb0
 have HA_0:=hU q0
 have HR_0:=hU q1
 have HB_0:=hU hb0
 have e4:=fun W (h:Below w.heap.size w W)=> SBoot x.mem iv ov nv images outs ins_ 0 W (hi.below h) (ho.below h) (hn.below h) h1 h2 h3 m0 m1
 have HST:=hU e4
 obtain ⟨f1,f2,f3,_⟩:=boot_frame x.mem images outs ins_ 0
 obtain ⟨_,_,_,f4,_⟩:=boot_frame x.mem images outs ins_ 0
 have f0:W0.cell? ⟨w.heap.size,0,none⟩=some (.int .i64 x.mem):=hcell HA_0.out 0
 clear q0 q1 hb0 e4
 go_enter Tryz.func45,Tryz.ntmps45
 repeat' (first|(rw [hW0];clear hW0)|go_values|go_skip|go_guarded|(with_reducible refine wg ?_)|go_step|go_upon)
 refine wp_region_noPanic ?_
 refine go0 (S:=fun W=> W.heap[w.heap.size]? =some (.cells x.cells 64 (0,0))∧W.cell? ⟨w.heap.size,0,none⟩=some (.int .i64 x.mem)) [] (⟨HA_0.out,f0⟩) fun hS=> ?_
 have HA_d:Hid (W0.drew.heap[w.heap.size]? =some (.cells x.cells 64 (0,0))):=hU HA_0.out
 have HR_d:Hid (W0.drew.heap[w.heap.size + 1]? =some (.cells #[.slice none 0 0,.slice none 0 0,.int .i64 0,.slice none 0 0,.slice none 0 0,.int .i64 0,.slice none 0 0,.int .u64 0,.slice none 0 0,.slice none 0 0,.slice none 0 0,.slice none 0 0,.string ⟨#[]⟩,.slice none 0 0,.slice none 0 0,.int .i64 0,.int .i64 0,.int .i64 0,.int .i64 0] 58 (0,0))):=hU HR_0.out
 have HB_d:=hU HB_0.out.drew
 clear HA_0 HR_0 HB_0 f0
 refine tp 0 ?_;try simp only [acts]
 refine tl 1 ?_;try simp only [acts]
 refine tp 2 ?_;try simp only [acts]
 refine tp 3 ?_;try simp only [acts]
 refine tp 4 ?_;try simp only [acts]
 refine tv 7 (.agg x.cells) (fun W hSW=> run_val_load rfl rfl (run_load_whole aggPart hSW.1 rfl)) ?_
 (try simp only [acts])
 refine ro 5 fun K hK=> ?_
 refine want rfl ?_
 go_simp
 refine (HST.out _ HB_d.out).mono ?_
 rintro er W1 ⟨v1,rfl,⟨y1,bs1,rfl,hl1⟩,hb1⟩
 have HA_1:=nB hb1 HA_d
 have HR_1:=nB hb1 HR_d
 have HB_1:=hU (HB_d.out.trans (hb1.mono HB_d.out.size))
 have HL_1:=hU hl1
 clear hb1 hl1 HA_d HR_d HB_d HST
 dsimp only
 try clear hS
 refine nx hK (⟨HA_1.out,hcell HA_1.out 0⟩) fun hS=> ?_
 clear hK K
 (try simp only [acts])
 refine tv 6 (.agg (scells y1 ⟨(boot x.mem images outs ins_ 0),1,1⟩)) (fun W hSW=> by kernel_rfl) ?_ (hi:=rfl)
 (try simp only [acts])
 refine tv 8 (.agg (wcells y1 ⟨(boot x.mem images outs ins_ 0),1,1⟩ x)) (fun W hSW=> by kernel_rfl) ?_ (hi:=rfl)
 (try simp only [acts])
 refine ro 9 fun K hK=> ?_
 go_simp
 obtain ⟨b,hab,hbb⟩:∃ b,W1.heap.size=b∧w.heap.size + 1<b:=⟨_,rfl,hlt HR_1.out⟩
 obtain ⟨W2,hWn,hba,HK_2⟩:=nb1 (.cells (wcells y1 ⟨(boot x.mem images outs ins_ 0),1,1⟩ x) 133) hab
 rw [hWn,hab]
 have HR_2:=nB hba HR_1
 have HL_2:Hid (LayAt W2 y1 bs1 (Seat.mk (boot x.mem images outs ins_ 0) 1 1).k):=nL hba HL_1
 have HB_2:=hU (HB_1.out.trans (hba.mono HB_1.out.size))
 have HA_2:=nB hba HA_1
 clear hba hWn hab HR_1 HL_1 HB_1 HA_1
 try clear hS
 refine nx hK (⟨HA_2.out,hcell HA_2.out 0⟩) fun hS=> ?_
 clear hK K HA_2
 (try simp only [acts])
 refine tp 10 ?_;try simp only [acts]
 refine doneL (by kernel_rfl) (NoPanic.normal ?_) _
 try clear hS
 have HE_2:Hid (KR.Kept b w W2):=hU (Kept.of HB_2.out)
 repeat' (first|go_values|go_skip|go_guarded|(with_reducible refine wg ?_)|go_step|go_upon)
 have e5:=WLooks b x ⟨(boot x.mem images outs ins_ 0),1,1⟩ W2 y1 bs1 HK_2.out HL_2.out m0 m1 (by rw [show (Seat.mk (boot x.mem images outs ins_ 0) 1 1).k.images=images from f2];exact h1) (by rw [show (Seat.mk (boot x.mem images outs ins_ 0) 1 1).k.outs=outs from f4];exact h2) (by rw [show (Seat.mk (boot x.mem images outs ins_ 0) 1 1).k.ins_=ins_ from f3];exact h3) (show (0:Int)≤1 by decide) (show (1:Int)≤1000000000 by decide)
 have hsb:slooks x ⟨(boot x.mem images outs ins_ 0),1,1⟩=sbegin x images outs ins_:=rfl
 rw [hsb] at e5
 refine e5.mono ?_
 rintro er W3 ⟨⟨vr,rfl⟩,⟨y3,bs3,hk3,hl3⟩,hke⟩
 have HR_3:=mB hke HR_2
 have HE_3:=mE hke HE_2
 have HK_3:=hU hk3
 have HL_3:=hU hl3
 have HB_3:=hU (Kept.low HE_3.out (by omega))
 clear hke hk3 hl3 HR_2 HE_2 HK_2 HL_2 HB_2 e5
 dsimp only
 repeat' (first
  |(refine wpList_load (t:=58) (v:=.agg (scells y3 (sbegin x images outs ins_))) rfl rfl rfl (run_load_part aggSeat HK_3.out (wcells_seat _ _ _) rfl) ?_)
  |(refine wpList_store (t:=58) (v:=.agg (scells y3 (sbegin x images outs ins_))) (off:=0) (new:=(scells y3 (sbegin x images outs ins_))) rfl rfl rfl rfl aggSeat.size HR_3.out rfl (show 0 + 19≤19 by decide) (onesS HL_3.out) rfl ?_;intro W4 hp
    have HR_4:=pA hp
    have HL_4:=pL hp HR_3 HL_3 noSeat
    have HB_4:=hU (Below.put HB_3.out hp (by omega))
    clear hp HR_3 HL_3 HB_3)
  |go_values|go_skip|go_guarded|(with_reducible refine wg ?_)|go_step|go_upon)
 (try simp only [Exit.inBlock,Exit.then]);refine bodyPost_ret (res_cell Tryz.results45 aggSeat rfl HR_4.out rfl) rfl ?_
 exact ⟨_,rfl,⟨_,_,rfl,HL_4.out⟩,HB_4.out⟩
end Kn
end Go.Proofs.YtkepkcjjenidgaaGreatDoor
