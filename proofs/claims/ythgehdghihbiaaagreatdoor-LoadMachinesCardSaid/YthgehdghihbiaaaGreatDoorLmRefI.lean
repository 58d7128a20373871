/- The reference's look at a seat that just began, and its beginning. Conditions: rows as they are read; few. -/
import Derived.Test.YthgehdghihbiaaaGreatDoorLmRefH
import Derived.Test.YthgehdghihbiaaaGreatDoorGSe0
set_option linter.unusedVariables false
set_option maxRecDepth 100000
set_option maxHeartbeats 8000000
set_option linter.unusedSimpArgs false
namespace Go.Proofs.YthgehdghihbiaaaGreatDoor
open Go.RowKit KR Kn RegT3
namespace Rf
theorem boot_g (mem:Int) (images:List ByteArray) (outs ins:List Chan) (now:Int):(boot mem images outs ins now).gone=0∨(boot mem images outs ins now).gone=1:=by
 by_cases hE:imageE (k0of mem images outs ins now) 0=0
 · by_cases h64:64≤(k0of mem images outs ins now).hs
   · rw [boot_yes hE h64]
     exact .inl rfl
   · rw [boot_no hE (by omega)]
     exact .inr rfl
 · rw [boot_bad hE]
   exact .inr rfl
theorem mixL {W:World} {y1 y:Lay} {bs1 bs:List BoxV} {k1 k:Kern} (h1:LayAt W y1 bs1 k1) (h:LayAt W y bs k):LayAt W {y1 with bx:=y.bx,tr:=y.tr,se:=y.se} bs {k1 with box:=k.box,cons:=k.cons,trace:=k.trace,sent:=k.sent,want:=k.want}:=
 ⟨h1.p,h1.t,h1.s,h1.pi,h1.h,h1.im,h1.ou,h1.ins_,h.bx,h.bse,h.ok,h.tr,h.se⟩
theorem Rlooks (x:Part) (y:Lay) (bs:List BoxV) (k:Kern) (w:World) (hl:LayAt w y bs k) (hg:k.gone=0∨k.gone=1) (h3:k.ins_.length≤1000000) (m1:x.mem≤9223372036854775807):
 Calls Tryz.prog 67 #[.agg x.cells,.agg (scells y ⟨k,1,1⟩)] w (GivesS (slooks x ⟨k,1,1⟩) w):=by
 obtain ⟨yp,yt,ys,ypi,yh,yim,you,yins,ybx,ytr,yse⟩:=y
 obtain ⟨ba,bc,hv,_,_⟩:=hl.bx.shape
 replace hv:ybx=.slice ba bs.length bc:=hv
 subst hv
 obtain ⟨ta,tc,hv,_,_⟩:=hl.tr.shape
 replace hv:ytr=.slice ta k.trace.length tc:=hv
 subst hv
 obtain ⟨sa,sc,hv,_,_⟩:=hl.se.shape
 replace hv:yse=.slice sa k.sent.length sc:=hv
 subst hv
 obtain ⟨q0,q1,q2⟩:=KR.three_new w w.heap.size (.cells x.cells 96) (.cells (scells ⟨yp,yt,ys,ypi,yh,yim,you,yins,.slice ba bs.length bc,.slice ta k.trace.length tc,.slice sa k.sent.length sc⟩ ⟨k,1,1⟩) 72) (.cells #[.slice none 0 0,.slice none 0 0,.int .i64 0,.slice none 0 0,.slice none 0 0,.int .i64 0,.slice none 0 0,.int .u64 0,.slice none 0 0,.slice none 0 0,.slice none 0 0,.slice none 0 0,.string ⟨#[]⟩,.slice none 0 0,.slice none 0 0,.int .i64 0,.int .i64 0,.int .i64 0,.int .i64 0] 72) rfl
 have hb0:Below w.heap.size w (((w.alloc (.cells x.cells 96)).alloc (.cells (scells ⟨yp,yt,ys,ypi,yh,yim,you,yins,.slice ba bs.length bc,.slice ta k.trace.length tc,.slice sa k.sent.length sc⟩ ⟨k,1,1⟩) 72)).alloc (.cells #[.slice none 0 0,.slice none 0 0,.int .i64 0,.slice none 0 0,.slice none 0 0,.int .i64 0,.slice none 0 0,.int .u64 0,.slice none 0 0,.slice none 0 0,.slice none 0 0,.slice none 0 0,.string ⟨#[]⟩,.slice none 0 0,.slice none 0 0,.int .i64 0,.int .i64 0,.int .i64 0,.int .i64 0] 72)):=bel
 have hl0:=hl.below hb0
 obtain ⟨W0,hW0⟩:=exW (((w.alloc (.cells x.cells 96)).alloc (.cells (scells ⟨yp,yt,ys,ypi,yh,yim,you,yins,.slice ba bs.length bc,.slice ta k.trace.length tc,.slice sa k.sent.length sc⟩ ⟨k,1,1⟩) 72)).alloc (.cells #[.slice none 0 0,.slice none 0 0,.int .i64 0,.slice none 0 0,.slice none 0 0,.int .i64 0,.slice none 0 0,.int .u64 0,.slice none 0 0,.slice none 0 0,.slice none 0 0,.slice none 0 0,.string ⟨#[]⟩,.slice none 0 0,.slice none 0 0,.int .i64 0,.int .i64 0,.int .i64 0,.int .i64 0] 72))
 rw [hW0] at q0 q1 q2 hb0 hl0
 have HA:=hU q0
 have HS:=hU q1
 have HR:=hU q2
 have HB:=hU hb0
 have HL:=hU hl0
 have f0:W0.cell? ⟨w.heap.size,0,none⟩=some (.int .i64 x.mem):=hcell HA.out 0
 have f1:W0.cell? ⟨w.heap.size,1,none⟩=some (.int .i64 x.a1):=hcell HA.out 1
 have f7:W0.cell? ⟨w.heap.size + 1,7,none⟩=some (.int .u64 k.now):=hcell HS.out 7
 have f8:W0.cell? ⟨w.heap.size + 1,8,none⟩=some yim:=hcell HS.out 8
 have f9:W0.cell? ⟨w.heap.size + 1,9,none⟩=some you:=hcell HS.out 9
 have f10:W0.cell? ⟨w.heap.size + 1,10,none⟩=some yins:=hcell HS.out 10
 have f16:W0.cell? ⟨w.heap.size + 1,16,none⟩=some (.int .i64 k.gone):=hcell HS.out 16
 have f17:W0.cell? ⟨w.heap.size + 1,17,none⟩=some (.int .i64 1):=hcell HS.out 17
 clear q0 q1 q2 hb0 hl0 hl
 by_cases hg0:k.gone=0
 · rw [hg0] at f16
   have HG:=hU hg0
   clear hg hg0 f0 f1 f7 f8 f9 f10
   go_enter Tryz.func67,Tryz.ntmps67
   repeat' (first
    |(rw [hW0];clear hW0)
    |(refine wpList_load (t:=72) (v:=.agg (scells ⟨yp,yt,ys,ypi,yh,yim,you,yins,.slice ba bs.length bc,.slice ta k.trace.length tc,.slice sa k.sent.length sc⟩ ⟨k,1,1⟩)) rfl rfl rfl (run_load_whole aggSeat HS.out rfl) ?_)
    |(refine wpList_store (t:=72) (v:=.agg (scells ⟨yp,yt,ys,ypi,yh,yim,you,yins,.slice ba bs.length bc,.slice ta k.trace.length tc,.slice sa k.sent.length sc⟩ ⟨k,1,1⟩)) (off:=0) (new:=(scells ⟨yp,yt,ys,ypi,yh,yim,you,yins,.slice ba bs.length bc,.slice ta k.trace.length tc,.slice sa k.sent.length sc⟩ ⟨k,1,1⟩)) rfl rfl rfl rfl aggSeat.size HR.out rfl (show 0 + 19≤19 by decide) (onesS HL.out) rfl ?_;intro Wn hp;replace HL:=pL hp HR HL;replace HB:=hU (Below.put HB.out hp (by omega));replace HR:=pA hp;clear hp HS)
    |go_values|go_skip|go_guarded|(with_reducible refine wg ?_)|go_step|go_upon)
   (try simp only [Exit.inBlock,Exit.then]);refine bodyPost_ret (res_cell Tryz.results67 aggSeat rfl HR.out rfl) rfl ?_
   rw [show slooks x ⟨k,1,1⟩=⟨k,1,1⟩ by unfold slooks;rw [if_pos (Or.inl HG.out)]]
   exact ⟨_,rfl,⟨_,bs,rfl,HL.out⟩,HB.out⟩
 · have hg1:k.gone=1:=hg.resolve_left hg0
   rw [hg1] at f16
   have hact:x.act k.gone=x.a1:=by unfold Part.act;rw [if_pos hg1]
   have hn:¬(k.gone=0∨(1:Int)=3):=by omega
   have HG:=hU hact
   have HN:=hU hn
   clear hg hg0 hg1 hact hn
   by_cases h2:x.a1=2
   · have e2:(x.a1==2)=true:=by simpa using h2
     have e3:(x.a1==3)=false:=by rw [h2];rfl
     have H2:=hU h2
     clear h2 f0 f7 f8 f9 f10
     go_enter Tryz.func67,Tryz.ntmps67
     repeat' (first
      |(rw [hW0];clear hW0)
      |(refine wpList_store (t:=3) (v:=.int .i64 3) (off:=17) (new:=(scells ⟨yp,yt,ys,ypi,yh,yim,you,yins,.slice ba bs.length bc,.slice ta k.trace.length tc,.slice sa k.sent.length sc⟩ ⟨k,3,1⟩)) rfl rfl rfl rfl oneInt.size HS.out rfl (show 17 + 1≤19 by decide) (by intro u hu;simp [Value.cells] at hu;subst hu;rfl) rfl ?_;intro Wn hp;replace HL:=pL hp HS HL;replace HR:=pO hp HR;replace HB:=hU (Below.put HB.out hp (by omega));have HS2:=pA hp;clear hp HS)
      |(refine wpList_load (t:=72) (v:=.agg (scells ⟨yp,yt,ys,ypi,yh,yim,you,yins,.slice ba bs.length bc,.slice ta k.trace.length tc,.slice sa k.sent.length sc⟩ ⟨k,3,1⟩)) rfl rfl rfl (run_load_whole aggSeat HS2.out rfl) ?_)
      |(refine wpList_store (t:=72) (v:=.agg (scells ⟨yp,yt,ys,ypi,yh,yim,you,yins,.slice ba bs.length bc,.slice ta k.trace.length tc,.slice sa k.sent.length sc⟩ ⟨k,3,1⟩)) (off:=0) (new:=(scells ⟨yp,yt,ys,ypi,yh,yim,you,yins,.slice ba bs.length bc,.slice ta k.trace.length tc,.slice sa k.sent.length sc⟩ ⟨k,3,1⟩)) rfl rfl rfl rfl aggSeat.size HR.out rfl (show 0 + 19≤19 by decide) (onesS (s:=⟨k,3,1⟩) HL.out) rfl ?_;intro Wn hp;replace HL:=pL hp HR HL;replace HB:=hU (Below.put HB.out hp (by omega));replace HR:=pA hp;clear hp HS2)
      |go_values|go_skip|go_guarded|(with_reducible refine wg ?_)|go_step|go_upon)
     (try simp only [Exit.inBlock,Exit.then]);refine bodyPost_ret (res_cell Tryz.results67 aggSeat rfl HR.out rfl) rfl ?_
     rw [show slooks x ⟨k,1,1⟩=⟨k,3,1⟩ by unfold slooks;rw [if_neg HN.out,if_pos (by rw [HG.out];exact H2.out)]]
     exact ⟨_,rfl,⟨_,bs,rfl,HL.out⟩,HB.out⟩
   · have e2:(x.a1==2)=false:=by simpa using h2
     have H2:=hU h2
     clear h2
     by_cases h4:x.a1=3
     · have e3:(x.a1==3)=true:=by simpa using h4
       have H4:=hU h4
       clear h4
       go_enter Tryz.func67,Tryz.ntmps67
       repeat' (first|(rw [hW0];clear hW0)|go_values|go_skip|go_guarded|(with_reducible refine wg ?_)|go_step|go_upon)
       refine (RBoot x.mem yim you yins k.images k.outs k.ins_ k.now W0 HL.out.im HL.out.ou HL.out.ins_ h3 m1).mono ?_
       rintro er Wn ⟨v1,rfl,⟨y1,bs1,rfl,hl1⟩,hb⟩
       obtain ⟨k1,hk1⟩:∃ k1,k1=boot x.mem k.images k.outs k.ins_ k.now:=⟨_,rfl⟩
       rw [← hk1] at hl1
       rw [← hk1]
       have HK1:=hU hk1
       replace HS:=nB hb HS
       replace HR:=nB hb HR
       replace HL:=nL hb HL
       replace HB:=nW hb HB
       have HL1:=hU hl1
       clear hb hl1 hk1 f0 f1 f7 f8 f9 f10 f16 f17
       dsimp only
       obtain ⟨b6,hab,hbz⟩:=nbz HB
       have hb6:=nlt HR hab
       obtain ⟨Wa,hWa,hba,HZ⟩:=nb1 (W:=Wn) (.cells #[.slice none 0 0,.slice none 0 0,.int .i64 0,.slice none 0 0,.slice none 0 0,.int .i64 0,.slice none 0 0,.int .u64 0,.slice none 0 0,.slice none 0 0,.slice none 0 0,.slice none 0 0,.string ⟨#[]⟩,.slice none 0 0,.slice none 0 0,.int .i64 0,.int .i64 0] 70) hab
       replace HS:=nB hba HS
       replace HR:=nB hba HR
       replace HL:=nL hba HL
       replace HL1:=nL hba HL1
       replace HB:=nW hba HB
       clear hba
       have g11:Wa.cell? ⟨w.heap.size + 1,11,none⟩=some (.slice ba bs.length bc):=hcell HS.out 11
       have g12:Wa.cell? ⟨w.heap.size + 1,12,none⟩=some (.string k.cons):=hcell HS.out 12
       have g13:Wa.cell? ⟨w.heap.size + 1,13,none⟩=some (.slice ta k.trace.length tc):=hcell HS.out 13
       have g14:Wa.cell? ⟨w.heap.size + 1,14,none⟩=some (.slice sa k.sent.length sc):=hcell HS.out 14
       have g15:Wa.cell? ⟨w.heap.size + 1,15,none⟩=some (.int .i64 k.want):=hcell HS.out 15
       repeat' (first
        |(rw [hWa,hab];clear hWa hab)
        |(refine wpList_load (t:=66) (v:=.slice ba bs.length bc) rfl rfl rfl (run_load_one oneSBox (hcell HS.out 11)) ?_)
        |(refine wpList_store (t:=70) (v:=.agg (kcells y1 k1)) (off:=0) (new:=#[y1.p,y1.t,.int .i64 k1.t.left,y1.s,y1.pi,.int .i64 k1.hs,y1.h,.int .u64 k1.now,y1.im,y1.ou,y1.ins_,y1.bx,.string k1.cons,y1.tr,y1.se,.int .i64 k1.want,.int .i64 k1.gone]) rfl rfl rfl rfl aggKern.size HZ.out rfl (show 0 + 17≤17 by decide) (onesK HL1.out) rfl ?_;intro Wn hp;replace HL:=pL hp HZ HL;replace HL1:=pL hp HZ HL1;replace HS:=pO hp HS;replace HR:=pO hp HR;replace HB:=hU (Below.put HB.out hp (by omega));have HK0:=pA hp;clear hp HZ g11 g12 g13 g14 g15;have g11:Wn.cell? ⟨w.heap.size + 1,11,none⟩=some (.slice ba bs.length bc):=hcell HS.out 11;have g12:Wn.cell? ⟨w.heap.size + 1,12,none⟩=some (.string k.cons):=hcell HS.out 12;have g13:Wn.cell? ⟨w.heap.size + 1,13,none⟩=some (.slice ta k.trace.length tc):=hcell HS.out 13;have g14:Wn.cell? ⟨w.heap.size + 1,14,none⟩=some (.slice sa k.sent.length sc):=hcell HS.out 14;have g15:Wn.cell? ⟨w.heap.size + 1,15,none⟩=some (.int .i64 k.want):=hcell HS.out 15)
        |(refine wpList_store (t:=66) (v:=.slice ba bs.length bc) (off:=11) (new:=#[y1.p,y1.t,.int .i64 k1.t.left,y1.s,y1.pi,.int .i64 k1.hs,y1.h,.int .u64 k1.now,y1.im,y1.ou,y1.ins_,.slice ba bs.length bc,.string k1.cons,y1.tr,y1.se,.int .i64 k1.want,.int .i64 k1.gone]) rfl rfl rfl rfl oneSBox.size HK0.out rfl (show 11 + 1≤17 by decide) (by intro u hu;simp [Value.cells] at hu;subst hu;rfl) rfl ?_;intro Wn hp;replace HL:=pL hp HK0 HL;replace HL1:=pL hp HK0 HL1;replace HS:=pO hp HS;replace HR:=pO hp HR;replace HB:=hU (Below.put HB.out hp (by omega));have HK1:=pA hp;clear hp HK0 g11 g12 g13 g14 g15;have g12:Wn.cell? ⟨w.heap.size + 1,12,none⟩=some (.string k.cons):=hcell HS.out 12;have g13:Wn.cell? ⟨w.heap.size + 1,13,none⟩=some (.slice ta k.trace.length tc):=hcell HS.out 13;have g14:Wn.cell? ⟨w.heap.size + 1,14,none⟩=some (.slice sa k.sent.length sc):=hcell HS.out 14;have g15:Wn.cell? ⟨w.heap.size + 1,15,none⟩=some (.int .i64 k.want):=hcell HS.out 15)
        |(refine wpList_store (t:=9) (v:=.string k.cons) (off:=12) (new:=#[y1.p,y1.t,.int .i64 k1.t.left,y1.s,y1.pi,.int .i64 k1.hs,y1.h,.int .u64 k1.now,y1.im,y1.ou,y1.ins_,.slice ba bs.length bc,.string k.cons,y1.tr,y1.se,.int .i64 k1.want,.int .i64 k1.gone]) rfl rfl rfl rfl oneStr.size HK1.out rfl (show 12 + 1≤17 by decide) (by intro u hu;simp [Value.cells] at hu;subst hu;rfl) rfl ?_;intro Wn hp;replace HL:=pL hp HK1 HL;replace HL1:=pL hp HK1 HL1;replace HS:=pO hp HS;replace HR:=pO hp HR;replace HB:=hU (Below.put HB.out hp (by omega));have HK2:=pA hp;clear hp HK1 g12 g13 g14 g15;have g13:Wn.cell? ⟨w.heap.size + 1,13,none⟩=some (.slice ta k.trace.length tc):=hcell HS.out 13;have g14:Wn.cell? ⟨w.heap.size + 1,14,none⟩=some (.slice sa k.sent.length sc):=hcell HS.out 14;have g15:Wn.cell? ⟨w.heap.size + 1,15,none⟩=some (.int .i64 k.want):=hcell HS.out 15)
        |(refine wpList_store (t:=67) (v:=.slice ta k.trace.length tc) (off:=13) (new:=#[y1.p,y1.t,.int .i64 k1.t.left,y1.s,y1.pi,.int .i64 k1.hs,y1.h,.int .u64 k1.now,y1.im,y1.ou,y1.ins_,.slice ba bs.length bc,.string k.cons,.slice ta k.trace.length tc,y1.se,.int .i64 k1.want,.int .i64 k1.gone]) rfl rfl rfl rfl oneSEv.size HK2.out rfl (show 13 + 1≤17 by decide) (by intro u hu;simp [Value.cells] at hu;subst hu;rfl) rfl ?_;intro Wn hp;replace HL:=pL hp HK2 HL;replace HL1:=pL hp HK2 HL1;replace HS:=pO hp HS;replace HR:=pO hp HR;replace HB:=hU (Below.put HB.out hp (by omega));have HK3:=pA hp;clear hp HK2 g13 g14 g15;have g14:Wn.cell? ⟨w.heap.size + 1,14,none⟩=some (.slice sa k.sent.length sc):=hcell HS.out 14;have g15:Wn.cell? ⟨w.heap.size + 1,15,none⟩=some (.int .i64 k.want):=hcell HS.out 15)
        |(refine wpList_store (t:=68) (v:=.slice sa k.sent.length sc) (off:=14) (new:=#[y1.p,y1.t,.int .i64 k1.t.left,y1.s,y1.pi,.int .i64 k1.hs,y1.h,.int .u64 k1.now,y1.im,y1.ou,y1.ins_,.slice ba bs.length bc,.string k.cons,.slice ta k.trace.length tc,.slice sa k.sent.length sc,.int .i64 k1.want,.int .i64 k1.gone]) rfl rfl rfl rfl oneSOut.size HK3.out rfl (show 14 + 1≤17 by decide) (by intro u hu;simp [Value.cells] at hu;subst hu;rfl) rfl ?_;intro Wn hp;replace HL:=pL hp HK3 HL;replace HL1:=pL hp HK3 HL1;replace HS:=pO hp HS;replace HR:=pO hp HR;replace HB:=hU (Below.put HB.out hp (by omega));have HK4:=pA hp;clear hp HK3 g14 g15;have g15:Wn.cell? ⟨w.heap.size + 1,15,none⟩=some (.int .i64 k.want):=hcell HS.out 15)
        |(refine wpList_store (t:=3) (v:=.int .i64 k.want) (off:=15) (new:=#[y1.p,y1.t,.int .i64 k1.t.left,y1.s,y1.pi,.int .i64 k1.hs,y1.h,.int .u64 k1.now,y1.im,y1.ou,y1.ins_,.slice ba bs.length bc,.string k.cons,.slice ta k.trace.length tc,.slice sa k.sent.length sc,.int .i64 k.want,.int .i64 k1.gone]) rfl rfl rfl rfl oneInt.size HK4.out rfl (show 15 + 1≤17 by decide) (by intro u hu;simp [Value.cells] at hu;subst hu;rfl) rfl ?_;intro Wn hp;replace HL:=pL hp HK4 HL;replace HL1:=pL hp HK4 HL1;replace HS:=pO hp HS;replace HR:=pO hp HR;replace HB:=hU (Below.put HB.out hp (by omega));have HK5:=pA hp;clear hp HK4 g15)
        |(refine wpList_load (t:=70) (v:=.agg #[y1.p,y1.t,.int .i64 k1.t.left,y1.s,y1.pi,.int .i64 k1.hs,y1.h,.int .u64 k1.now,y1.im,y1.ou,y1.ins_,.slice ba bs.length bc,.string k.cons,.slice ta k.trace.length tc,.slice sa k.sent.length sc,.int .i64 k.want,.int .i64 k1.gone]) rfl rfl rfl (run_load_whole aggKern HK5.out rfl) ?_)
        |(refine wpList_store (t:=70) (v:=.agg #[y1.p,y1.t,.int .i64 k1.t.left,y1.s,y1.pi,.int .i64 k1.hs,y1.h,.int .u64 k1.now,y1.im,y1.ou,y1.ins_,.slice ba bs.length bc,.string k.cons,.slice ta k.trace.length tc,.slice sa k.sent.length sc,.int .i64 k.want,.int .i64 k1.gone]) (off:=0) (new:=#[y1.p,y1.t,.int .i64 k1.t.left,y1.s,y1.pi,.int .i64 k1.hs,y1.h,.int .u64 k1.now,y1.im,y1.ou,y1.ins_,.slice ba bs.length bc,.string k.cons,.slice ta k.trace.length tc,.slice sa k.sent.length sc,.int .i64 k.want,.int .i64 k1.gone,.int .i64 1,.int .i64 1]) rfl rfl rfl rfl aggKern.size HS.out rfl (show 0 + 17≤19 by decide) (onesK (y:={y1 with bx:=.slice ba bs.length bc,tr:=.slice ta k.trace.length tc,se:=.slice sa k.sent.length sc}) (k:={k1 with box:=k.box,cons:=k.cons,trace:=k.trace,sent:=k.sent,want:=k.want}) (bs:=bs) (mixL HL1.out HL.out)) rfl ?_;intro Wn hp;replace HL:=pL hp HS HL;replace HL1:=pL hp HS HL1;replace HR:=pO hp HR;replace HB:=hU (Below.put HB.out hp (by omega));have HS2:=pA hp;clear hp HS HK5;have g18:Wn.cell? ⟨w.heap.size + 1,18,none⟩=some (.int .i64 1):=hcell HS2.out 18)
        |(refine wpList_store (t:=3) (v:=.int .i64 2) (off:=18) (new:=#[y1.p,y1.t,.int .i64 k1.t.left,y1.s,y1.pi,.int .i64 k1.hs,y1.h,.int .u64 k1.now,y1.im,y1.ou,y1.ins_,.slice ba bs.length bc,.string k.cons,.slice ta k.trace.length tc,.slice sa k.sent.length sc,.int .i64 k.want,.int .i64 k1.gone,.int .i64 1,.int .i64 2]) rfl rfl rfl rfl oneInt.size HS2.out rfl (show 18 + 1≤19 by decide) (by intro u hu;simp [Value.cells] at hu;subst hu;rfl) rfl ?_;intro Wn hp;replace HL:=pL hp HS2 HL;replace HL1:=pL hp HS2 HL1;replace HR:=pO hp HR;replace HB:=hU (Below.put HB.out hp (by omega));have HS3:=pA hp;clear hp HS2 g18)
        |(refine wpList_load (t:=72) (v:=.agg #[y1.p,y1.t,.int .i64 k1.t.left,y1.s,y1.pi,.int .i64 k1.hs,y1.h,.int .u64 k1.now,y1.im,y1.ou,y1.ins_,.slice ba bs.length bc,.string k.cons,.slice ta k.trace.length tc,.slice sa k.sent.length sc,.int .i64 k.want,.int .i64 k1.gone,.int .i64 1,.int .i64 2]) rfl rfl rfl (run_load_whole aggSeat HS3.out rfl) ?_)
        |(refine wpList_store (t:=72) (v:=.agg #[y1.p,y1.t,.int .i64 k1.t.left,y1.s,y1.pi,.int .i64 k1.hs,y1.h,.int .u64 k1.now,y1.im,y1.ou,y1.ins_,.slice ba bs.length bc,.string k.cons,.slice ta k.trace.length tc,.slice sa k.sent.length sc,.int .i64 k.want,.int .i64 k1.gone,.int .i64 1,.int .i64 2]) (off:=0) (new:=#[y1.p,y1.t,.int .i64 k1.t.left,y1.s,y1.pi,.int .i64 k1.hs,y1.h,.int .u64 k1.now,y1.im,y1.ou,y1.ins_,.slice ba bs.length bc,.string k.cons,.slice ta k.trace.length tc,.slice sa k.sent.length sc,.int .i64 k.want,.int .i64 k1.gone,.int .i64 1,.int .i64 2]) rfl rfl rfl rfl aggSeat.size HR.out rfl (show 0 + 19≤19 by decide) (onesS (y:={y1 with bx:=.slice ba bs.length bc,tr:=.slice ta k.trace.length tc,se:=.slice sa k.sent.length sc}) (s:=⟨{k1 with box:=k.box,cons:=k.cons,trace:=k.trace,sent:=k.sent,want:=k.want},1,2⟩) (bs:=bs) (mixL HL1.out HL.out)) rfl ?_;intro Wn hp;replace HL:=pL hp HR HL;replace HL1:=pL hp HR HL1;replace HB:=hU (Below.put HB.out hp (by omega));replace HR:=pA hp;clear hp HS3)
        |go_values|go_skip|go_guarded|(with_reducible refine wg ?_)|go_step|go_upon)
       (try simp only [Exit.inBlock,Exit.then]);refine bodyPost_ret (res_cell Tryz.results67 aggSeat rfl HR.out rfl) rfl ?_
       rw [show slooks x ⟨k,1,1⟩=⟨{k1 with box:=k.box,cons:=k.cons,trace:=k.trace,sent:=k.sent,want:=k.want},1,2⟩ by unfold slooks reset;rw [if_neg HN.out,if_neg (by rw [HG.out];exact H2.out),if_pos (by rw [HG.out];exact H4.out),HK1.out];rfl]
       exact ⟨_,rfl,⟨{y1 with bx:=.slice ba bs.length bc,tr:=.slice ta k.trace.length tc,se:=.slice sa k.sent.length sc},bs,rfl,(mixL HL1.out HL.out)⟩,HB.out⟩
     · have e3:(x.a1==3)=false:=by simpa using h4
       have H4:=hU h4
       clear h4 f0 f7 f8 f9 f10
       go_enter Tryz.func67,Tryz.ntmps67
       repeat' (first
        |(rw [hW0];clear hW0)
        |(refine wpList_load (t:=72) (v:=.agg (scells ⟨yp,yt,ys,ypi,yh,yim,you,yins,.slice ba bs.length bc,.slice ta k.trace.length tc,.slice sa k.sent.length sc⟩ ⟨k,1,1⟩)) rfl rfl rfl (run_load_whole aggSeat HS.out rfl) ?_)
        |(refine wpList_store (t:=72) (v:=.agg (scells ⟨yp,yt,ys,ypi,yh,yim,you,yins,.slice ba bs.length bc,.slice ta k.trace.length tc,.slice sa k.sent.length sc⟩ ⟨k,1,1⟩)) (off:=0) (new:=(scells ⟨yp,yt,ys,ypi,yh,yim,you,yins,.slice ba bs.length bc,.slice ta k.trace.length tc,.slice sa k.sent.length sc⟩ ⟨k,1,1⟩)) rfl rfl rfl rfl aggSeat.size HR.out rfl (show 0 + 19≤19 by decide) (onesS HL.out) rfl ?_;intro Wn hp;replace HL:=pL hp HR HL;replace HB:=hU (Below.put HB.out hp (by omega));replace HR:=pA hp;clear hp HS)
        |go_values|go_skip|go_guarded|(with_reducible refine wg ?_)|go_step|go_upon)
       (try simp only [Exit.inBlock,Exit.then]);refine bodyPost_ret (res_cell Tryz.results67 aggSeat rfl HR.out rfl) rfl ?_
       rw [show slooks x ⟨k,1,1⟩=⟨k,1,1⟩ by unfold slooks;rw [if_neg HN.out,if_neg (by rw [HG.out];exact H2.out),if_neg (by rw [HG.out];exact H4.out)]]
       exact ⟨_,rfl,⟨_,bs,rfl,HL.out⟩,HB.out⟩
end Rf
end Go.Proofs.YthgehdghihbiaaaGreatDoor
