/- The law KernRight: it answers true. Conditions: rows that there can be; the table of the instructions' parts lies there. -/
import Derived.Test.YtalapfkfdhpomaaGreatDoorGLaw
import Derived.Test.YtalapfkfdhpomaaGreatDoorGRight
set_option linter.unusedVariables false
set_option linter.unusedSimpArgs false
namespace Go.Proofs.YtalapfkfdhpomaaGreatDoor
open Go.RowKit KR RegT3
namespace Kn
def RightR (W:World) (k:Kern) (rv sv iv:Value) (wr:World):Prop:=∃ i:Nat,i≤k.p.length∧iv=.int .i64 i∧rv=.int .i64 ((k.p.take i).countP (fun p=> decide (p.st=1)):Nat)∧sv=.int .i64 ((k.p.take i).countP (fun p=> decide (p.st ≠ 4)):Nat)∧Below W.heap.size W wr
def CntR (W:World) (l:List Int) (x:Int) (cv jv:Value) (wr:World):Prop:=∃ j:Nat,j≤l.length∧jv=.int .i64 j∧cv=.int .i64 ((l.take j).count x:Nat)∧Below W.heap.size W wr
set_option maxRecDepth 100000 in
set_option maxHeartbeats 4000000 in
theorem LRight (g:Guest) (iv ov nv lv:Value) (l:List Deed) (w:World) (hi:Rd 1 strCells w iv g.images) (ho:Rd 5 Chan.cells w ov g.outs) (hn:Rd 5 Chan.cells w nv g.ins_) (hl:SlDeed w lv l) (n0:0≤g.now) (n1:g.now≤18446744073709551615) (m0: -9223372036854775808≤g.mem) (m1:g.mem≤9223372036854775807) (hs:SmallDeeds l) (hT:Tab w):
 Calls Tryz.prog 4 #[.agg (gcells g iv ov nv),lv] w (Gives (.bool true) w):=by
 have HT:=hU (fun W (h:Below w.heap.size w W)=> hT.below h)
 have HI:=hU (fun W (h:Below w.heap.size w W)=> hi.below h)
 have HO:=hU (fun W (h:Below w.heap.size w W)=> ho.below h)
 have HN:=hU (fun W (h:Below w.heap.size w W)=> hn.below h)
 have HD:=hU (fun W (h:Below w.heap.size w W)=> hl.below h)
 clear hi ho hn hl hT
 obtain ⟨W0,hW0,hb0,HQ_0⟩:=nb1 (W:=w) (.cells (gcells g iv ov nv) 26) rfl
 have HB_0:=hU hb0
 have hzQ:=hlt HQ_0.out
 clear hb0
 go_enter Tryz.func4,Tryz.ntmps4
 repeat' (first|(rw [hW0];clear hW0)|go_values|go_skip|go_guarded|(with_reducible refine Way.go ?_)|go_step|go_upon)
 refine (LShown _ (HT.out _ HB_0.out)).mono ?_
 rintro er W1 ⟨rfl,hb⟩
 have HQ_1:=nB hb HQ_0
 have HB_1:=hU (HB_0.out.trans (hb.mono HB_0.out.size))
 clear hb HQ_0 HB_0
 dsimp only
 repeat' (first|(refine wpList_load (t:=26) (v:=.agg (gcells g iv ov nv)) rfl rfl rfl (run_load_whole aggGuest HQ_1.out rfl) ?_)|go_values|go_skip|go_guarded|(with_reducible refine Way.go ?_)|go_step|go_upon)
 refine (LFew g iv ov nv _ (HI.out _ HB_1.out) (HO.out _ HB_1.out) (HN.out _ HB_1.out)).mono ?_
 rintro er W2 ⟨rfl,hb⟩
 have HQ_2:=nB hb HQ_1
 have HB_2:=hU (HB_1.out.trans (hb.mono HB_1.out.size))
 clear hb HQ_1 HB_1
 dsimp only
 cases hfew:fewB g
 · repeat' (first|go_values|go_skip|go_guarded|(with_reducible refine Way.go ?_)|go_step|go_upon)
   go_ret
   exact gives_of rfl HB_2.out
 have HG:=hU (few_ok hfew n0 n1 m0 m1)
 clear hfew
 repeat' (first|(refine wpList_load (t:=26) (v:=.agg (gcells g iv ov nv)) rfl rfl rfl (run_load_whole aggGuest HQ_2.out rfl) ?_)|go_values|go_skip|go_guarded|(with_reducible refine Way.go ?_)|go_step|go_upon)
 refine (SPlays g iv ov nv lv l _ (HI.out _ HB_2.out) (HO.out _ HB_2.out) (HN.out _ HB_2.out) (HD.out _ HB_2.out) HG.out hs (HT.out _ HB_2.out)).mono ?_
 rintro er W3 ⟨v3,rfl,⟨yk,bs,rfl,hl3⟩,hb⟩
 have HQ_3:=nB hb HQ_2
 have HB_3:=hU (HB_2.out.trans (hb.mono HB_2.out.size))
 have HL_3:=hU hl3
 have hz3:=hlt HQ_3.out
 clear hb HQ_2 HB_2 hl3
 dsimp only
 obtain ⟨k,hk⟩:∃ k,plays g l=k:=⟨_,rfl⟩
 have HGD:Hid (Good 1800 k):=hU (by rw [← hk];exact plays_good HG.out hs)
 rw [hk] at HL_3 ⊢
 have HKP:=hU hk
 clear hk
 obtain ⟨b,hab,hbb⟩:∃ b,W3.heap.size=b∧w.heap.size<b:=⟨_,rfl,hz3⟩
 obtain ⟨W4,hW4,hb4,HK_4⟩:=nb1 (.cells #[.slice none 0 0,.slice none 0 0,.int .i64 0,.slice none 0 0,.slice none 0 0,.int .i64 0,.slice none 0 0,.int .u64 0,.slice none 0 0,.slice none 0 0,.slice none 0 0,.slice none 0 0,.string ⟨#[]⟩,.slice none 0 0,.slice none 0 0,.int .i64 0,.int .i64 0] 43) hab
 have HB_4:=hU (HB_3.out.trans (hb4.mono HB_3.out.size))
 have HQ_4:=nB hb4 HQ_3
 have HL_4:=nL hb4 HL_3
 clear hb4 HB_3 HQ_3 HL_3
 have HON:=hU (onesK HL_4.out)
 repeat' (first
  |(rw [hW4,hab];clear hW4)
  |(refine wpList_store (t:=43) (v:=.agg (kcells yk k)) (off:=0) (new:=kcells yk k) rfl rfl rfl rfl aggKern.size HK_4.out rfl (show 0 + 17≤17 by decide) HON.out rfl ?_;intro W5 hp
    have HK_5:=pA hp
    have HQ_5:=pO hp HQ_4
    have HE_5:Hid (KR.Kept b w W5):=pK hp (hU (Kept.of HB_4.out))
    have HL_5:=pL hp HK_4 HL_4 noKern
    have k0:W5.cell? ⟨b,0,none⟩=some yk.p:=hcell HK_5.out 0
    clear hp HK_4 HQ_4 HB_4 HL_4)
  |go_values|go_skip|go_guarded|(with_reducible refine Way.go ?_)|go_step|go_upon)
 clear hab hz3 HON
 have HINV:=hU HGD.out.inv
 have HLIFE:=hU HGD.out.life
 have hmn:k.p.length≤6:=HGD.out.inv.n6
 have hs0:=HGD.out.inv.size
 have hs1:=HGD.out.hs1
 have HB_5:=hU (Kept.low HE_5.out (by omega))
 obtain ⟨pa,pc,hpa,_,_⟩:=HL_5.out.p.shape
 obtain ⟨ta,tc,hta,_,htm⟩:=HL_5.out.t.shape
 obtain ⟨aa,ac,haa,_,ham⟩:=HL_5.out.s.shape
 obtain ⟨ha,hc,hha,_,hhm⟩:=HL_5.out.h.shape
 have HSP:=hU (fun W (h:Below W5.heap.size W5 W)=> RRightP _ k.p W (HL_5.out.p.below h) HINV.out.tab.so HINV.out.tab.pos)
 have HSA:=hU (fun W (h:Below W5.heap.size W5 W)=> RRightA _ k.s W (HL_5.out.s.below h) HINV.out.so)
 have HSH:=hU (fun W (h:Below W5.heap.size W5 W)=> RRightH _ k.h k.hs W (HL_5.out.h.below h) HINV.out.rightH hs0 hs1)
 have hpe:=HL_5.out.p
 have hte:=HL_5.out.t
 have hae:=HL_5.out.s
 have hhe:=HL_5.out.h
 rw [hpa] at hpe
 rw [hta] at hte
 rw [haa] at hae HSA
 rw [hha] at hhe HSH
 have HPE:=hU hpe.elem.2.2.2
 have HTE:=hU hte.elem.2.2.2
 have HAE:=hU hae.elem.2.2.2
 have HHE:=hU hhe.elem.2.2.2
 have HF0:Hid (∀ W:World,W.heap[b]? =some (.cells (kcells yk k) 43 (0,0))→W.cell? ⟨b,0,none⟩=some (.slice pa k.p.length pc)):=hU (fun W h=> (hcell h 0).trans (congrArg some hpa))
 have HF1:Hid (∀ W:World,W.heap[b]? =some (.cells (kcells yk k) 43 (0,0))→W.cell? ⟨b,1,none⟩=some (.slice ta k.t.l.length tc)):=hU (fun W h=> (hcell h 1).trans (congrArg some hta))
 have HF3:Hid (∀ W:World,W.heap[b]? =some (.cells (kcells yk k) 43 (0,0))→W.cell? ⟨b,3,none⟩=some (.slice aa k.s.length ac)):=hU (fun W h=> (hcell h 3).trans (congrArg some haa))
 have HF6:Hid (∀ W:World,W.heap[b]? =some (.cells (kcells yk k) 43 (0,0))→W.cell? ⟨b,6,none⟩=some (.slice ha k.h.length hc)):=hU (fun W h=> (hcell h 6).trans (congrArg some hha))
 clear hpa hta haa hha hpe hte hae hhe HQ_5 HL_5 HE_5 HGD
 repeat' (first|go_values|go_skip|go_guarded|(with_reducible refine Way.go ?_)|go_step|go_upon)
 refine (HSP.out _ (Below.refl _ _)).mono ?_
 rintro er W6 ⟨rfl,hb⟩
 have HD_6:=hU hb
 have HK_6:=nB hb HK_5
 clear hb k0 HSP
 dsimp only
 have k3:=HF3.out W6 HK_6.out
 repeat' (first|go_values|go_skip|go_guarded|(with_reducible refine Way.go ?_)|go_step|go_upon)
 refine (HSA.out _ HD_6.out).mono ?_
 rintro er W7 ⟨rfl,hb⟩
 have HD_7:=hU (HD_6.out.trans (hb.mono HD_6.out.size))
 have HK_7:=nB hb HK_6
 clear hb k3 HSA HD_6 HK_6
 dsimp only
 have k0:=HF0.out W7 HK_7.out
 have k5:W7.cell? ⟨b,5,none⟩=some (.int .i64 k.hs):=hcell HK_7.out 5
 have k6:=HF6.out W7 HK_7.out
 have d6:decide ((6:Int)<(k.p.length:Int))=false:=by simp;omega
 repeat' (first|go_values|go_skip|go_guarded|(with_reducible refine Way.go ?_)|go_step|go_upon)
 refine (HSH.out _ HD_7.out).mono ?_
 rintro er W8 ⟨rfl,hb⟩
 have HD_8:=hU (HD_7.out.trans (hb.mono HD_7.out.size))
 have HK_8:=nB hb HK_7
 clear hb k0 k5 k6 d6 HSH HD_7 HK_7 hs0 hs1
 dsimp only
 repeat' (first|go_values|go_skip|go_guarded|(with_reducible refine Way.go ?_)|go_step|go_upon)
 go_loopw [9,10,11] (fun rv sv iv wr=> RightR W8 k rv sv iv wr) (fun _ _ iv _=> k.p.length - (intOf iv).toNat)
 case atStart=> exact ⟨0,Nat.zero_le _,rfl,rfl,rfl,Below.refl _ _⟩
 case round=>
  obtain ⟨i,hi,rfl,rfl,rfl,hb⟩:=hrel
  have HB:=hU hb
  have HD_9:=hU (HD_8.out.trans (hb.mono HD_8.out.size))
  have HK_9:=nB hb HK_8
  have hz0:=hb.size
  have k0:=HF0.out wr HK_9.out
  have hr9:=countP_le k.p (fun p=> decide (p.st=1)) i
  have hs9:=countP_le k.p (fun p=> decide (p.st ≠ 4)) i
  clear hb
  by_cases hil:i<k.p.length
  · obtain ⟨p,hx⟩:∃ p,k.p[i]? =some p:=⟨_,List.getElem?_eq_getElem hil⟩
    have hpm:=List.mem_of_getElem? hx
    have hst:=HINV.out.tab.st p hpm
    have hmem:=HINV.out.tab.mem p hpm
    have h64:=HINV.out.h64
    have HR1:=hU (countP_take (fun p=> decide (p.st=1)) hx)
    have HR2:=hU (countP_take (fun p=> decide (p.st ≠ 4)) hx)
    have HC1:=hU (HINV.out.turns hpm)
    have HC2:=hU (HINV.out.alarms hpm)
    have HC3:=hU (HINV.out.owns hpm)
    have H64:=hU h64
    obtain ⟨ra,hra⟩:∃ ra,(k.p.take i).countP (fun p=> decide (p.st=1))=ra:=⟨_,rfl⟩
    obtain ⟨sa,hsa⟩:∃ sa,(k.p.take i).countP (fun p=> decide (p.st ≠ 4))=sa:=⟨_,rfl⟩
    rw [hra] at HR1 hr9 ⊢
    rw [hsa] at HR2 hs9 ⊢
    obtain ⟨gp,op,rfl,_,hc0⟩:=HPE.out i p hx
    have HC:=hU (hc0 wr HD_9.out)
    have hj1:(i:Int)<(k.p.length:Int):=by omega
    have hj0:(0:Int)≤(i:Int):=by omega
    clear hc0 hx hpm h64 hra hsa
    obtain ⟨bq,hab,hbq,hbw⟩:∃ bq,wr.heap.size=bq∧b<bq∧W8.heap.size≤bq:=⟨_,rfl,hlt HK_9.out,hz0⟩
    obtain ⟨Wa,hWa,hba,HP_a⟩:=nb1 (.cells #[.int .i64 0,.int .i64 0,.int .i64 0,.int .u32 0,.int .u32 0,.int .u32 0,.int .u32 0,.int .u32 0,.int .u32 0,.int .u32 0,.int .u32 0,.int .u32 0,.string ⟨#[]⟩,.int .i64 0,.int .i64 0,.bool false,.int .i64 0,.bool false,.int .i64 0,.bool false,.int .i64 0,.bool false,.int .u32 0,.int .u32 0,.int .u32 0,.int .u32 0] 62) hab
    have HB_a:=hU (HB.out.trans (hba.mono hz0))
    have HK_a:=nB hba HK_9
    clear hba
    repeat' (first
     |(refine wpList_load (t:=62) (v:=.agg p.cells) rfl rfl rfl (run_load_arr aggProc rfl HC.out) ?_)
     |(rw [hWa,hab];clear hWa)
     |(refine wpList_store (t:=62) (v:=.agg p.cells) (off:=0) (new:=p.cells) rfl rfl rfl rfl aggProc.size HP_a.out rfl (show 0 + 26≤26 by decide) (onesProc p) rfl ?_;intro Wb hp
       have HB_b:=hU (Below.put HB_a.out hp hbw)
       have HP_b:=pA hp
       have HK_b:=pO hp HK_a
       have k1:=HF1.out Wb HK_b.out
       have f0:Wb.cell? ⟨bq,0,none⟩=some (.int .i64 p.pid):=hcell HP_b.out 0
       clear hp HP_a HK_a HB_a)
     |go_values|go_skip|go_guarded|(with_reducible refine Way.go ?_)|go_step|go_upon)
    clear f0 k0 HC
    have HD_b:=hU (HD_8.out.trans (HB_b.out.mono HD_8.out.size))
    have hq1:k.t.l.length≤9223372036854775807:=by omega
    have hq2:k.s.length≤9223372036854775807:=by omega
    have hq3:k.h.length≤9223372036854775807:=by omega
    obtain ⟨wo1,rfl⟩:∃ wo:World,wo=Wb:=⟨Wb,rfl⟩
    go_loopw [13,14] (fun cv jv wr=> CntR wo1 k.t.l p.pid cv jv wr) (fun _ jv _=> k.t.l.length - (intOf jv).toNat)
    case atStart=> exact ⟨0,Nat.zero_le _,rfl,rfl,Below.refl _ _⟩
    case round=>
     obtain ⟨j,hj,rfl,rfl,hb⟩:=hrel
     have HB_1:=hU (HB_b.out.trans (hb.mono HB_b.out.size))
     have HD_1:=hU (HD_b.out.trans (hb.mono HD_b.out.size))
     have HP_1:=nB hb HP_b
     have HK_1:=nB hb HK_b
     have HX:=hU hb
     have k1:=HF1.out wr HK_1.out
     have f0:wr.cell? ⟨bq,0,none⟩=some (.int .i64 p.pid):=hcell HP_1.out 0
     have hcl:=count_le k.t.l p.pid j
     skip
     clear hb
     by_cases hjl:j<k.t.l.length
     · obtain ⟨x,hx⟩:∃ x,k.t.l[j]? =some x:=⟨_,List.getElem?_eq_getElem hjl⟩
       have HCT:=hU (count_take k.t.l p.pid (show (k.t.l)[j]? =some x by exact hx))
       skip
       obtain ⟨g1,o1,he,_,hc1⟩:=HTE.out j x hx
       obtain ⟨cn,hcn⟩:∃ cn,((k.t.l).take j).count p.pid=cn:=⟨_,rfl⟩
       rw [hcn] at HCT hcl ⊢
       have c0:wr.cell? ⟨g1,o1 + j,none⟩=some (.int .i64 x):=by simpa using hc1 wr HD_1.out 0 (.int .i64 x) rfl
       skip
       rw [he] at k1
       have hi1:(j:Int)<(k.t.l.length:Int):=by omega
       have hi0:(0:Int)≤(j:Int):=by omega
       have hw1:IntKind.i64.wrap ((cn:Int) + 1)=(cn:Int) + 1:=by rw [IntKind.wrap_i64];omega
       clear hc1 hx he hcn
       repeat' (first|go_values|go_skip|go_guarded|(with_reducible refine Way.go ?_)|go_step|go_upon)
       by_cases heq:x=p.pid
       · have be:(x==p.pid)=true:=by simp [heq]
         have HEQ:=hU heq
         clear heq
         refine wp_region_noPanic ?_
         refine go0 (S:=fun W=> W.cell? ⟨b,1,none⟩=some (.slice (some ⟨g1,o1,none⟩) k.t.l.length tc)∧W.cell? ⟨bq,0,none⟩=some (.int .i64 p.pid)∧W.cell? ⟨g1,o1 + j,none⟩=some (.int .i64 x)) [] (⟨k1,f0,c0⟩) fun hS=> ?_
         refine tp 0 ?_;(try simp only [acts])
         refine tp 1 ?_;(try simp only [acts])
         refine tl 2 ?_;(try simp only [acts])
         refine tp 3 ?_;(try simp only [acts])
         refine tp 4 ?_;(try simp only [acts])
         refine tl 5 ?_;(try simp only [acts])
         refine tp 6 ?_;(try simp only [acts])
         refine tl 7 ?_;(try simp only [acts])
         refine tp 8 ?_;(try simp only [acts])
         refine doneL (by kernel_rfl) (NoPanic.normal ?_) _
         clear hS
         repeat' (first|go_values|go_skip|go_guarded|(with_reducible refine Way.go ?_)|go_step|go_upon)
         exact ⟨⟨j + 1,by omega,by go_num,by rw [HCT.out,if_pos HEQ.out];rfl,HX.out.drew⟩,by simp [intOf];omega⟩
       · have be:(x==p.pid)=false:=by simp [heq]
         have HEQ:=hU heq
         clear heq
         refine wp_region_noPanic ?_
         refine go0 (S:=fun W=> W.cell? ⟨b,1,none⟩=some (.slice (some ⟨g1,o1,none⟩) k.t.l.length tc)∧W.cell? ⟨bq,0,none⟩=some (.int .i64 p.pid)∧W.cell? ⟨g1,o1 + j,none⟩=some (.int .i64 x)) [] (⟨k1,f0,c0⟩) fun hS=> ?_
         refine tp 0 ?_;(try simp only [acts])
         refine tp 1 ?_;(try simp only [acts])
         refine tl 2 ?_;(try simp only [acts])
         refine tp 3 ?_;(try simp only [acts])
         refine tp 4 ?_;(try simp only [acts])
         refine tl 5 ?_;(try simp only [acts])
         refine tp 6 ?_;(try simp only [acts])
         refine tl 7 ?_;(try simp only [acts])
         refine tp 8 ?_;(try simp only [acts])
         refine doneL (by kernel_rfl) (NoPanic.normal ?_) _
         clear hS
         repeat' (first|go_values|go_skip|go_guarded|(with_reducible refine Way.go ?_)|go_step|go_upon)
         exact ⟨⟨j + 1,by omega,by go_num,by rw [HCT.out,if_neg HEQ.out];rfl,HX.out.drew⟩,by simp [intOf];omega⟩
     · have hje:j=k.t.l.length:=by omega
       have hall:(k.t.l).take j=k.t.l:=by rw [hje];exact List.take_of_length_le (Nat.le_refl _)
       have hjn:¬ (j:Int)<(k.t.l.length:Int):=by omega
       rw [hall,HC1.out]
       clear hall hcl hje hjl hj
       have HB_e1:=HB_1
       have HD_e1:=HD_1
       have HP_e1:=HP_1
       have HK_e1:=HK_1
       have k3:=HF3.out wr HK_1.out
       repeat' (first|go_values|go_skip|go_guarded|(with_reducible refine Way.go ?_)|go_step|go_upon)
       clear k1 f0 HX hjn
       obtain ⟨wo2,rfl⟩:∃ wo:World,wo=wr:=⟨wr,rfl⟩
       go_loopw [15,16] (fun cv jv wr=> CntR wo2 (k.s.map (·.pid)) p.pid cv jv wr) (fun _ jv _=> k.s.length - (intOf jv).toNat)
       case atStart=> exact ⟨0,Nat.zero_le _,rfl,rfl,Below.refl _ _⟩
       case round=>
        obtain ⟨j,hj,rfl,rfl,hb⟩:=hrel
        have HB_2:=hU (HB_e1.out.trans (hb.mono HB_e1.out.size))
        have HD_2:=hU (HD_e1.out.trans (hb.mono HD_e1.out.size))
        have HP_2:=nB hb HP_e1
        have HK_2:=nB hb HK_e1
        have HX:=hU hb
        have k3:=HF3.out wr HK_2.out
        have f0:wr.cell? ⟨bq,0,none⟩=some (.int .i64 p.pid):=hcell HP_2.out 0
        have hcl:=count_le (k.s.map (·.pid)) p.pid j
        rw [List.length_map] at hj
        clear hb
        by_cases hjl:j<k.s.length
        · obtain ⟨x,hx⟩:∃ x,k.s[j]? =some x:=⟨_,List.getElem?_eq_getElem hjl⟩
          have HCT:=hU (count_take (k.s.map (·.pid)) p.pid (show ((k.s.map (·.pid)))[j]? =some x.pid by rw [List.getElem?_map,hx];rfl))
          skip
          obtain ⟨g1,o1,he,_,hc1⟩:=HAE.out j x hx
          obtain ⟨cn,hcn⟩:∃ cn,(((k.s.map (·.pid))).take j).count p.pid=cn:=⟨_,rfl⟩
          rw [hcn] at HCT hcl ⊢
          have c0:wr.cell? ⟨g1,o1 + j * 2 + 1,none⟩=some (.int .i64 x.pid):=by exact hc1 wr HD_2.out 1 _ rfl
          skip
          rw [he] at k3
          have hi1:(j:Int)<(k.s.length:Int):=by omega
          have hi0:(0:Int)≤(j:Int):=by omega
          have hw1:IntKind.i64.wrap ((cn:Int) + 1)=(cn:Int) + 1:=by rw [IntKind.wrap_i64];omega
          clear hc1 hx he hcn
          repeat' (first|go_values|go_skip|go_guarded|(with_reducible refine Way.go ?_)|go_step|go_upon)
          by_cases heq:x.pid=p.pid
          · have be:(x.pid==p.pid)=true:=by simp [heq]
            have HEQ:=hU heq
            clear heq
            refine wp_region_noPanic ?_
            refine go0 (S:=fun W=> W.cell? ⟨b,3,none⟩=some (.slice (some ⟨g1,o1,none⟩) k.s.length ac)∧W.cell? ⟨bq,0,none⟩=some (.int .i64 p.pid)∧W.cell? ⟨g1,o1 + j * 2 + 1,none⟩=some (.int .i64 x.pid)) [] (⟨k3,f0,c0⟩) fun hS=> ?_
            refine tp 0 ?_;(try simp only [acts])
            refine tl 1 ?_;(try simp only [acts])
            refine tp 2 ?_;(try simp only [acts])
            refine tp 3 ?_;(try simp only [acts])
            refine tp 4 ?_;(try simp only [acts])
            refine tl 5 ?_;(try simp only [acts])
            refine tp 6 ?_;(try simp only [acts])
            refine tl 7 ?_;(try simp only [acts])
            refine tp 8 ?_;(try simp only [acts])
            refine doneL (by kernel_rfl) (NoPanic.normal ?_) _
            clear hS
            repeat' (first|go_values|go_skip|go_guarded|(with_reducible refine Way.go ?_)|go_step|go_upon)
            exact ⟨⟨j + 1,by rw [List.length_map];omega,by go_num,by rw [HCT.out,if_pos HEQ.out];rfl,HX.out.drew⟩,by simp [intOf];omega⟩
          · have be:(x.pid==p.pid)=false:=by simp [heq]
            have HEQ:=hU heq
            clear heq
            refine wp_region_noPanic ?_
            refine go0 (S:=fun W=> W.cell? ⟨b,3,none⟩=some (.slice (some ⟨g1,o1,none⟩) k.s.length ac)∧W.cell? ⟨bq,0,none⟩=some (.int .i64 p.pid)∧W.cell? ⟨g1,o1 + j * 2 + 1,none⟩=some (.int .i64 x.pid)) [] (⟨k3,f0,c0⟩) fun hS=> ?_
            refine tp 0 ?_;(try simp only [acts])
            refine tl 1 ?_;(try simp only [acts])
            refine tp 2 ?_;(try simp only [acts])
            refine tp 3 ?_;(try simp only [acts])
            refine tp 4 ?_;(try simp only [acts])
            refine tl 5 ?_;(try simp only [acts])
            refine tp 6 ?_;(try simp only [acts])
            refine tl 7 ?_;(try simp only [acts])
            refine tp 8 ?_;(try simp only [acts])
            refine doneL (by kernel_rfl) (NoPanic.normal ?_) _
            clear hS
            repeat' (first|go_values|go_skip|go_guarded|(with_reducible refine Way.go ?_)|go_step|go_upon)
            exact ⟨⟨j + 1,by rw [List.length_map];omega,by go_num,by rw [HCT.out,if_neg HEQ.out];rfl,HX.out.drew⟩,by simp [intOf];omega⟩
        · have hje:j=k.s.length:=by omega
          have hall:((k.s.map (·.pid))).take j=(k.s.map (·.pid)):=by rw [hje];exact List.take_of_length_le (by rw [List.length_map];exact Nat.le_refl _)
          have hjn:¬ (j:Int)<(k.s.length:Int):=by omega
          rw [hall,HC2.out]
          clear hall hcl hje hjl hj
          have HB_e2:=HB_2
          have HD_e2:=HD_2
          have HP_e2:=HP_2
          have HK_e2:=HK_2
          have k6:=HF6.out wr HK_2.out
          repeat' (first|go_values|go_skip|go_guarded|(with_reducible refine Way.go ?_)|go_step|go_upon)
          clear k3 f0 HX hjn
          obtain ⟨wo3,rfl⟩:∃ wo:World,wo=wr:=⟨wr,rfl⟩
          go_loopw [17,18] (fun cv jv wr=> CntR wo3 (k.h.map (·.who)) p.pid cv jv wr) (fun _ jv _=> k.h.length - (intOf jv).toNat)
          case atStart=> exact ⟨0,Nat.zero_le _,rfl,rfl,Below.refl _ _⟩
          case round=>
           obtain ⟨j,hj,rfl,rfl,hb⟩:=hrel
           have HB_3:=hU (HB_e2.out.trans (hb.mono HB_e2.out.size))
           have HD_3:=hU (HD_e2.out.trans (hb.mono HD_e2.out.size))
           have HP_3:=nB hb HP_e2
           have HK_3:=nB hb HK_e2
           have HX:=hU hb
           have k6:=HF6.out wr HK_3.out
           have f0:wr.cell? ⟨bq,0,none⟩=some (.int .i64 p.pid):=hcell HP_3.out 0
           have hcl:=count_le (k.h.map (·.who)) p.pid j
           rw [List.length_map] at hj
           clear hb
           by_cases hjl:j<k.h.length
           · obtain ⟨x,hx⟩:∃ x,k.h[j]? =some x:=⟨_,List.getElem?_eq_getElem hjl⟩
             have HCT:=hU (count_take (k.h.map (·.who)) p.pid (show ((k.h.map (·.who)))[j]? =some x.who by rw [List.getElem?_map,hx];rfl))
             have hn64:=H64.out x (List.mem_of_getElem? hx)
             obtain ⟨g1,o1,he,_,hc1⟩:=HHE.out j x hx
             obtain ⟨cn,hcn⟩:∃ cn,(((k.h.map (·.who))).take j).count p.pid=cn:=⟨_,rfl⟩
             rw [hcn] at HCT hcl ⊢
             have c0:wr.cell? ⟨g1,o1 + j * 3 + 2,none⟩=some (.int .i64 x.who):=by exact hc1 wr HD_3.out 2 _ rfl
             have c1:wr.cell? ⟨g1,o1 + j * 3 + 1,none⟩=some (.int .i64 64):=by rw [← hn64];exact hc1 wr HD_3.out 1 _ rfl
             rw [he] at k6
             have hi1:(j:Int)<(k.h.length:Int):=by omega
             have hi0:(0:Int)≤(j:Int):=by omega
             have hw1:IntKind.i64.wrap ((cn:Int) + 1)=(cn:Int) + 1:=by rw [IntKind.wrap_i64];omega
             clear hc1 hx he hcn
             repeat' (first|go_values|go_skip|go_guarded|(with_reducible refine Way.go ?_)|go_step|go_upon)
             by_cases heq:x.who=p.pid
             · have be:(x.who==p.pid)=true:=by simp [heq]
               have HEQ:=hU heq
               clear heq
               refine wp_region_noPanic ?_
               refine go0 (S:=fun W=> W.cell? ⟨b,6,none⟩=some (.slice (some ⟨g1,o1,none⟩) k.h.length hc)∧W.cell? ⟨bq,0,none⟩=some (.int .i64 p.pid)∧W.cell? ⟨g1,o1 + j * 3 + 2,none⟩=some (.int .i64 x.who)∧W.cell? ⟨g1,o1 + j * 3 + 1,none⟩=some (.int .i64 64)) [] (⟨k6,f0,c0,c1⟩) fun hS=> ?_
               refine tp 0 ?_;(try simp only [acts])
               refine tp 1 ?_;(try simp only [acts])
               refine tl 2 ?_;(try simp only [acts])
               refine tp 3 ?_;(try simp only [acts])
               refine tp 4 ?_;(try simp only [acts])
               refine tp 5 ?_;(try simp only [acts])
               refine tl 6 ?_;(try simp only [acts])
               refine tp 7 ?_;(try simp only [acts])
               refine tl 8 ?_;(try simp only [acts])
               refine tp 9 ?_;(try simp only [acts])
               refine tp 10 ?_;(try simp only [acts])
               refine tp 11 ?_;(try simp only [acts])
               refine tp 12 ?_;(try simp only [acts])
               refine tl 13 ?_;(try simp only [acts])
               refine tp 14 ?_;(try simp only [acts])
               refine tp 15 ?_;(try simp only [acts])
               refine tp 16 ?_;(try simp only [acts])
               refine tl 17 ?_;(try simp only [acts])
               refine tp 18 ?_;(try simp only [acts])
               refine tp 19 ?_;(try simp only [acts])
               refine doneL (by kernel_rfl) (NoPanic.normal ?_) _
               clear hS
               repeat' (first|go_values|go_skip|go_guarded|(with_reducible refine Way.go ?_)|go_step|go_upon)
               exact ⟨⟨j + 1,by rw [List.length_map];omega,by go_num,by rw [HCT.out,if_pos HEQ.out];rfl,HX.out.drew⟩,by simp [intOf];omega⟩
             · have be:(x.who==p.pid)=false:=by simp [heq]
               have HEQ:=hU heq
               clear heq
               refine wp_region_noPanic ?_
               refine go0 (S:=fun W=> W.cell? ⟨b,6,none⟩=some (.slice (some ⟨g1,o1,none⟩) k.h.length hc)∧W.cell? ⟨bq,0,none⟩=some (.int .i64 p.pid)∧W.cell? ⟨g1,o1 + j * 3 + 2,none⟩=some (.int .i64 x.who)∧W.cell? ⟨g1,o1 + j * 3 + 1,none⟩=some (.int .i64 64)) [] (⟨k6,f0,c0,c1⟩) fun hS=> ?_
               refine tp 0 ?_;(try simp only [acts])
               refine tp 1 ?_;(try simp only [acts])
               refine tl 2 ?_;(try simp only [acts])
               refine tp 3 ?_;(try simp only [acts])
               refine tp 4 ?_;(try simp only [acts])
               refine tp 5 ?_;(try simp only [acts])
               refine tl 6 ?_;(try simp only [acts])
               refine tp 7 ?_;(try simp only [acts])
               refine tl 8 ?_;(try simp only [acts])
               refine tp 9 ?_;(try simp only [acts])
               refine tp 10 ?_;(try simp only [acts])
               refine tn 11 ?_;(try simp only [acts])
               refine tn 12 ?_;(try simp only [acts])
               refine tn 13 ?_;(try simp only [acts])
               refine tn 14 ?_;(try simp only [acts])
               refine tn 15 ?_;(try simp only [acts])
               refine tn 16 ?_;(try simp only [acts])
               refine tn 17 ?_;(try simp only [acts])
               refine tn 18 ?_;(try simp only [acts])
               refine tp 19 ?_;(try simp only [acts])
               refine doneL (by kernel_rfl) (NoPanic.normal ?_) _
               clear hS
               repeat' (first|go_values|go_skip|go_guarded|(with_reducible refine Way.go ?_)|go_step|go_upon)
               exact ⟨⟨j + 1,by rw [List.length_map];omega,by go_num,by rw [HCT.out,if_neg HEQ.out];rfl,HX.out.drew⟩,by simp [intOf];omega⟩
           · have hje:j=k.h.length:=by omega
             have hall:((k.h.map (·.who))).take j=(k.h.map (·.who)):=by rw [hje];exact List.take_of_length_le (by rw [List.length_map];exact Nat.le_refl _)
             have hjn:¬ (j:Int)<(k.h.length:Int):=by omega
             rw [hall,HC3.out]
             clear hall hcl hje hjl hj
             have HB_e3:=HB_3
             have HD_e3:=HD_3
             have HP_e3:=HP_3
             have HK_e3:=HK_3
             have f2:wr.cell? ⟨bq,2,none⟩=some (.int .i64 p.st):=hcell HP_3.out 2
             have f4:wr.cell? ⟨bq,12,none⟩=some (.string p.mem):=hcell HP_3.out 12
             have hw1:IntKind.i64.wrap ((ra:Int) + 1)=(ra:Int) + 1:=by rw [IntKind.wrap_i64];omega
             have hw2:IntKind.i64.wrap ((sa:Int) + 1)=(sa:Int) + 1:=by rw [IntKind.wrap_i64];omega
             have hw3:IntKind.i64.wrap ((sa:Int) + 0)=(sa:Int):=by rw [IntKind.wrap_i64];omega
             have hmI:(p.mem.size:Int)=64:=by omega
             clear f0 HX
             rcases (by omega:p.st=1∨p.st=2∨p.st=3∨p.st=4) with h|h|h|h
             · rw [h] at f2 ⊢
               have HR3:Hid ((k.p.take (i + 1)).countP (fun p=> decide (p.st=1))=ra + 1):=hU (by rw [HR1.out,h];rfl)
               have HR4:Hid ((k.p.take (i + 1)).countP (fun p=> decide (p.st ≠ 4))=sa + 1):=hU (by rw [HR2.out,h];rfl)
               clear h hst hmem HR1 HR2
               repeat' (first|go_values|go_skip|go_guarded|(with_reducible refine Way.go ?_)|go_step|go_upon)
               exact ⟨⟨i + 1,by omega,by go_num,by rw [HR3.out];rfl,by rw [HR4.out];rfl,HB_3.out⟩,by simp [intOf];omega⟩
             · rw [h] at f2 ⊢
               have HR3:Hid ((k.p.take (i + 1)).countP (fun p=> decide (p.st=1))=ra + 0):=hU (by rw [HR1.out,h];rfl)
               have HR4:Hid ((k.p.take (i + 1)).countP (fun p=> decide (p.st ≠ 4))=sa + 1):=hU (by rw [HR2.out,h];rfl)
               clear h hst hmem HR1 HR2
               repeat' (first|go_values|go_skip|go_guarded|(with_reducible refine Way.go ?_)|go_step|go_upon)
               exact ⟨⟨i + 1,by omega,by go_num,by rw [HR3.out];rfl,by rw [HR4.out];rfl,HB_3.out⟩,by simp [intOf];omega⟩
             · rw [h] at f2 ⊢
               have HR3:Hid ((k.p.take (i + 1)).countP (fun p=> decide (p.st=1))=ra + 0):=hU (by rw [HR1.out,h];rfl)
               have HR4:Hid ((k.p.take (i + 1)).countP (fun p=> decide (p.st ≠ 4))=sa + 1):=hU (by rw [HR2.out,h];rfl)
               clear h hst hmem HR1 HR2
               repeat' (first|go_values|go_skip|go_guarded|(with_reducible refine Way.go ?_)|go_step|go_upon)
               exact ⟨⟨i + 1,by omega,by go_num,by rw [HR3.out];rfl,by rw [HR4.out];rfl,HB_3.out⟩,by simp [intOf];omega⟩
             · rw [h] at f2 ⊢
               have HR3:Hid ((k.p.take (i + 1)).countP (fun p=> decide (p.st=1))=ra + 0):=hU (by rw [HR1.out,h];rfl)
               have HR4:Hid ((k.p.take (i + 1)).countP (fun p=> decide (p.st ≠ 4))=sa + 0):=hU (by rw [HR2.out,h];rfl)
               clear h hst hmem HR1 HR2
               repeat' (first|go_values|go_skip|go_guarded|(with_reducible refine Way.go ?_)|go_step|go_upon)
               exact ⟨⟨i + 1,by omega,by go_num,by rw [HR3.out];rfl,by rw [HR4.out];rfl,HB_3.out⟩,by simp [intOf];omega⟩
  · have hie:i=k.p.length:=by omega
    have k1:=HF1.out wr HK_9.out
    have k6:=HF6.out wr HK_9.out
    have k16:wr.cell? ⟨b,16,none⟩=some (.int .i64 k.gone):=hcell HK_9.out 16
    have hr:=HINV.out.ready
    have hs:=HINV.out.spans
    have HLF:=HLIFE
    rw [hie,List.take_length,hr,hs]
    have HBW:=hU (HB_5.out.trans (HD_9.out.mono HB_5.out.size))
    have hL:(k.gone==0)=decide ((0:Int)<(k.p.length:Int)):=by
     rcases HLIFE.out with ⟨a1,a2⟩|⟨a1,a2⟩
     · have:0<k.p.length:=List.length_pos_iff.2 a2
       rw [a1]
       simp
       omega
     · rw [a2]
       simp [a1]
    clear hr hs hie HLF hr9 hs9
    repeat' (first|go_values|go_skip|go_guarded|(with_reducible refine Way.go ?_)|go_step|go_upon)
    go_ret
    exact gives_of (by simp [hL]) HBW.out
end Kn
end Go.Proofs.YtalapfkfdhpomaaGreatDoor
