/- The law KernZombies: it answers true. Conditions: rows that there can be; the table of the instructions' parts lies there. -/
import Derived.Test.YtalapfkfdhpomaaGreatDoorGLaw
import Derived.Test.YtalapfkfdhpomaaGreatDoorGCpuA
import Derived.Laws.StructEq
set_option linter.unusedVariables false
set_option linter.unusedSimpArgs false
namespace Go.Proofs.YtalapfkfdhpomaaGreatDoor
open Go.RowKit KR RegT3
namespace Kn
theorem info_endZ:(Tryz.prog.info? 57).map (fun i=> i.size)=some 2:=by kernel_rfl
theorem arr_fdsZ (d:Nat) (W:World) (xs ys:Array Value):(Op.equalIn (d + 1) 58 (.agg xs) (.agg ys)).run Tryz.prog W=(eqFrom d 57 2 xs ys 0 4).run Tryz.prog W:=by
 obtain ⟨i,hi,hs⟩:=Option.map_eq_some_iff.1 info_endZ
 have e:arrOf Tryz.prog 58=(4,57):=by unfold arrOf;rw [Tryz.underlying58]
 have h:=run_equalIn_array (P:=Tryz.prog) W d 58 xs ys i (by rw [e];exact Tryz.underlying58) (by rw [e];exact hi)
 rw [e,hs] at h
 exact h
theorem neqFds (W:World):(binOp .neq 58 (.agg #[.int .i64 0,.bool false,.int .i64 0,.bool false,.int .i64 0,.bool false,.int .i64 0,.bool false]) (.agg #[.int .i64 0,.bool false,.int .i64 0,.bool false,.int .i64 0,.bool false,.int .i64 0,.bool false])).run Tryz.prog W=.ok (.bool false) W:=by
 have hF:=arr_fdsZ
 go_simp
/-- the first ones are right -/
def ZombR (W:World) (n:Nat) (iv:Value) (wr:World):Prop:=∃ i:Nat,i≤n∧iv=.int .i64 i∧Below W.heap.size W wr
def ZombR2 (W:World) (l:List Proc) (f:Proc→Bool) (tv iv:Value) (wr:World):Prop:=∃ i:Nat,i≤l.length∧iv=.int .i64 i∧tv=.bool ((l.take i).any f)∧Below W.heap.size W wr
theorem tab_par {l:List Proc} (h:TabOk l) {p:Proc} (hp:p ∈ l) (h4:p.st=4):l.any (fun q=> q.pid==p.par && !(q.st==4))=true:=by
 rcases h.par p hp with ⟨_,_,h5⟩|⟨_,_,q,hq,h5,h6⟩
 · exact absurd h4 h5
 · exact List.any_eq_true.2 ⟨q,hq,by simp [h5,h6]⟩
theorem tab_one {l:List Proc} (h:TabOk l) {p:Proc} (hp:p ∈ l):∃ x,(p.pid==1)=x∧(p.par==0)=x:=by
 rcases h.par p hp with ⟨h1,h2,_⟩|⟨h1,h2,_⟩
 · exact ⟨true,by rw [h1];rfl,by rw [h2];rfl⟩
 · exact ⟨false,by simp;omega,by simp;omega⟩
theorem fds_zero {p:Proc} (h:noFd p):p.cells.extract 14 22=#[.int .i64 0,.bool false,.int .i64 0,.bool false,.int .i64 0,.bool false,.int .i64 0,.bool false]:=by
 obtain ⟨a0,a1,a2,a3,a4,a5,a6,a7⟩:=h
 show (#[.int .i64 p.d0,.bool p.e0,.int .i64 p.d1,.bool p.e1,.int .i64 p.d2,.bool p.e2,.int .i64 p.d3,.bool p.e3]:Array Value)=_
 simp only [a0,a1,a2,a3,a4,a5,a6,a7]
set_option maxRecDepth 100000 in
set_option maxHeartbeats 4000000 in
theorem LZombies (g:Guest) (iv ov nv lv:Value) (l:List Deed) (w:World) (hi:Rd 1 strCells w iv g.images) (ho:Rd 5 Chan.cells w ov g.outs) (hn:Rd 5 Chan.cells w nv g.ins_) (hl:SlDeed w lv l) (n0:0≤g.now) (n1:g.now≤18446744073709551615) (m0: -9223372036854775808≤g.mem) (m1:g.mem≤9223372036854775807) (hs:SmallDeeds l) (hT:Tab w):
 Calls Tryz.prog 9 #[.agg (gcells g iv ov nv),lv] w (Gives (.bool true) w):=by
 have HT:=Lib.hid (fun W (h:Below w.heap.size w W)=> hT.below h)
 have HI:=Lib.hid (fun W (h:Below w.heap.size w W)=> hi.below h)
 have HO:=Lib.hid (fun W (h:Below w.heap.size w W)=> ho.below h)
 have HN:=Lib.hid (fun W (h:Below w.heap.size w W)=> hn.below h)
 have HD:=Lib.hid (fun W (h:Below w.heap.size w W)=> hl.below h)
 clear hi ho hn hl hT
 obtain ⟨W0,hW0,hb0,HQ_0⟩:=nb1 (W:=w) (.cells (gcells g iv ov nv) 26) rfl
 have HB_0:=Lib.hid hb0
 have hzQ:=hlt HQ_0.out
 clear hb0
 go_enter Tryz.func9,Tryz.ntmps9
 repeat' (first|(rw [hW0];clear hW0)|go_values|go_skip|go_guarded|(with_reducible first|refine Way.go ?_|refine wayO ?_)|go_step|go_upon)
 refine (LShown _ (HT.out _ HB_0.out)).mono ?_
 rintro er W1 ⟨rfl,hb⟩
 have HQ_1:=nB hb HQ_0
 have HB_1:=Lib.hid (HB_0.out.trans (hb.mono HB_0.out.size))
 clear hb HQ_0 HB_0
 dsimp only
 repeat' (first|(refine wpList_load (t:=26) (v:=.agg (gcells g iv ov nv)) rfl rfl rfl (run_load_whole aggGuest HQ_1.out rfl) ?_)|go_values|go_skip|go_guarded|(with_reducible first|refine Way.go ?_|refine wayO ?_)|go_step|go_upon)
 refine (LFew g iv ov nv _ (HI.out _ HB_1.out) (HO.out _ HB_1.out) (HN.out _ HB_1.out)).mono ?_
 rintro er W2 ⟨rfl,hb⟩
 have HQ_2:=nB hb HQ_1
 have HB_2:=Lib.hid (HB_1.out.trans (hb.mono HB_1.out.size))
 clear hb HQ_1 HB_1
 dsimp only
 cases hfew:fewB g
 · repeat' (first|go_values|go_skip|go_guarded|(with_reducible first|refine Way.go ?_|refine wayO ?_)|go_step|go_upon)
   go_ret
   exact gives_of rfl HB_2.out
 have HG:=Lib.hid (few_ok hfew n0 n1 m0 m1)
 clear hfew
 repeat' (first|(refine wpList_load (t:=26) (v:=.agg (gcells g iv ov nv)) rfl rfl rfl (run_load_whole aggGuest HQ_2.out rfl) ?_)|go_values|go_skip|go_guarded|(with_reducible first|refine Way.go ?_|refine wayO ?_)|go_step|go_upon)
 refine (SPlays g iv ov nv lv l _ (HI.out _ HB_2.out) (HO.out _ HB_2.out) (HN.out _ HB_2.out) (HD.out _ HB_2.out) HG.out hs (HT.out _ HB_2.out)).mono ?_
 rintro er W3 ⟨v3,rfl,⟨yk,bs,rfl,hl3⟩,hb⟩
 have HQ_3:=nB hb HQ_2
 have HB_3:=Lib.hid (HB_2.out.trans (hb.mono HB_2.out.size))
 have HL_3:=Lib.hid hl3
 have hz3:=hlt HQ_3.out
 clear hb HQ_2 HB_2 hl3
 dsimp only
 obtain ⟨k,hk⟩:∃ k,plays g l=k:=⟨_,rfl⟩
 have HGD:Hid (Good 1800 k):=Lib.hid (by rw [← hk];exact plays_good HG.out hs)
 rw [hk] at HL_3 ⊢
 have HKP:=Lib.hid hk
 clear hk
 obtain ⟨b,hab,hbb⟩:∃ b,W3.heap.size=b∧w.heap.size<b:=⟨_,rfl,hz3⟩
 obtain ⟨W4,hW4,hb4,HK_4⟩:=nb1 (.cells #[.slice none 0 0,.slice none 0 0,.int .i64 0,.slice none 0 0,.slice none 0 0,.int .i64 0,.slice none 0 0,.int .u64 0,.slice none 0 0,.slice none 0 0,.slice none 0 0,.slice none 0 0,.string ⟨#[]⟩,.slice none 0 0,.slice none 0 0,.int .i64 0,.int .i64 0] 43) hab
 have HB_4:=Lib.hid (HB_3.out.trans (hb4.mono HB_3.out.size))
 have HQ_4:=nB hb4 HQ_3
 have HL_4:=nL hb4 HL_3
 clear hb4 HB_3 HQ_3 HL_3
 have HON:=Lib.hid (onesK HL_4.out)
 repeat' (first
  |(rw [hW4,hab];clear hW4)
  |(refine wpList_store (t:=43) (v:=.agg (kcells yk k)) (off:=0) (new:=kcells yk k) rfl rfl rfl rfl aggKern.size HK_4.out rfl (show 0 + 17≤17 by decide) HON.out rfl ?_;intro W5 hp
    have HK_5:=pA hp
    have HQ_5:=pO hp HQ_4
    have HE_5:Hid (KR.Kept b w W5):=pK hp (Lib.hid (Kept.of HB_4.out))
    have HL_5:=pL hp HK_4 HL_4 noKern
    clear hp HK_4 HQ_4 HB_4 HL_4)
  |go_values|go_skip|go_guarded|(with_reducible first|refine Way.go ?_|refine wayO ?_)|go_step|go_upon)
 clear hab hz3 HON
 have hmn:k.p.length≤6:=HGD.out.inv.n6
 obtain ⟨pa,pc,hpa,_,_⟩:=HL_5.out.p.shape
 have HPA:=Lib.hid hpa
 have hpe:=HL_5.out.p
 rw [hpa] at hpe
 have HEL:=Lib.hid hpe.elem.2.2.2
 clear hpa hpe HQ_5 HL_5
 repeat' (first|go_values|go_skip|go_guarded|(with_reducible first|refine Way.go ?_|refine wayO ?_)|go_step|go_upon)
 go_loopw [8] (fun iv wr=> ZombR W5 k.p.length iv wr) (fun iv _=> k.p.length - (intOf iv).toNat)
 case atStart=> exact ⟨0,Nat.zero_le _,rfl,Below.refl _ _⟩
 case round=>
  obtain ⟨i,hi,rfl,hb⟩:=hrel
  have HB:=Lib.hid hb
  have HK_0:=nB hb HK_5
  have hz0:=hb.size
  have k0:wr.cell? ⟨b,0,none⟩=some (.slice pa k.p.length pc):=(hcell HK_0.out 0).trans (congrArg some HPA.out)
  clear hb
  by_cases hil:i<k.p.length
  · obtain ⟨p,hx⟩:∃ p,k.p[i]? =some p:=⟨_,List.getElem?_eq_getElem hil⟩
    have hpm:=List.mem_of_getElem? hx
    have hst:=HGD.out.inv.tab.st p hpm
    have HT1:=Lib.hid (tab_one HGD.out.inv.tab hpm)
    have HT2:=Lib.hid (fun h=> tab_par HGD.out.inv.tab hpm h)
    have HT3:=Lib.hid (fun h=> HGD.out.inv.tab.fd p hpm h)
    obtain ⟨gp,op,rfl,_,hc⟩:=HEL.out i p hx
    have HC:=Lib.hid (hc wr HB.out)
    have hj1:(i:Int)<(k.p.length:Int):=by omega
    have hj0:(0:Int)≤(i:Int):=by omega
    clear hc hx hpm
    obtain ⟨bq,hab,hbq⟩:∃ bq,wr.heap.size=bq∧b<bq:=⟨_,rfl,hlt HK_0.out⟩
    obtain ⟨W6,hW6,hb6,HP6⟩:=nb1 (.cells #[.int .i64 0,.int .i64 0,.int .i64 0,.int .u32 0,.int .u32 0,.int .u32 0,.int .u32 0,.int .u32 0,.int .u32 0,.int .u32 0,.int .u32 0,.int .u32 0,.string ⟨#[]⟩,.int .i64 0,.int .i64 0,.bool false,.int .i64 0,.bool false,.int .i64 0,.bool false,.int .i64 0,.bool false,.int .u32 0,.int .u32 0,.int .u32 0,.int .u32 0] 62) hab
    have HB6:=Lib.hid (HB.out.trans (hb6.mono hz0))
    have HK6:=nB hb6 HK_0
    clear hb6
    have HON:=Lib.hid (onesProc p)
    have b1:decide (p.st<1)=false:=by simp;omega
    have b2:decide (4<p.st)=false:=by simp;omega
    obtain ⟨xq,e1,e2⟩:=HT1.out
    have HH4:=Lib.hid (fun h4=> fds_zero (HT3.out h4))
    by_cases h4:p.st=4
    · have b4:(p.st !=4)=false:=by simp [h4]
      have HH5:=Lib.hid (HH4.out h4)
      have HH6:=Lib.hid (HT2.out h4)
      have hq:=neqFds
      clear HH4 HT1 HT2 HT3 h4
      repeat' (first
       |(refine wpList_load (t:=62) (v:=.agg p.cells) rfl rfl rfl (run_load_arr aggProc rfl HC.out) ?_)
       |(rw [hW6,hab];clear hW6)
       |(refine wpList_store (t:=62) (v:=.agg p.cells) (off:=0) (new:=p.cells) rfl rfl rfl rfl aggProc.size HP6.out rfl (show 0 + 26≤26 by decide) HON.out rfl ?_;intro W7 hp
         have HB7:=Lib.hid (Below.put HB6.out hp (by have:=HB.out.size;omega))
         have HP7:=pA hp
         have HK7:=pO hp HK6
         have p0:W7.cell? ⟨bq,0,none⟩=some (.int .i64 p.pid):=hcell HP7.out 0
         have p1:W7.cell? ⟨bq,1,none⟩=some (.int .i64 p.par):=hcell HP7.out 1
         have p2:W7.cell? ⟨bq,2,none⟩=some (.int .i64 p.st):=hcell HP7.out 2
         clear hp HP6 HK6 HB6 HON)
       |(refine wpList_load (t:=58) (v:=.agg #[.int .i64 0,.bool false,.int .i64 0,.bool false,.int .i64 0,.bool false,.int .i64 0,.bool false]) rfl rfl rfl (run_load_part aggFds HP7.out HH5.out rfl) ?_)
       |go_values|go_skip|go_guarded|(with_reducible first|refine Way.go ?_|refine wayO ?_)|go_step|go_upon)
      clear p0 p2
      obtain ⟨wo,rfl⟩:∃ wo:World,wo=wr:=⟨wr,rfl⟩
      go_loopw [10,11] (fun tv jv wr=> ZombR2 W7 k.p (fun q=> q.pid==p.par && !(q.st==4)) tv jv wr) (fun _ jv _=> k.p.length - (intOf jv).toNat)
      case atStart=> exact ⟨0,Nat.zero_le _,rfl,rfl,Below.refl _ _⟩
      case round=>
       obtain ⟨j,hj,rfl,rfl,hb8⟩:=hrel
       have HB8:=Lib.hid hb8
       have HP8:=nB hb8 HP7
       have HK8:=nB hb8 HK7
       have j0:wr.cell? ⟨b,0,none⟩=some (.slice (some ⟨gp,op,none⟩) k.p.length pc):=(hcell HK8.out 0).trans (congrArg some HPA.out)
       clear hb8
       by_cases hjl:j<k.p.length
       · obtain ⟨q,hx2⟩:∃ q,k.p[j]? =some q:=⟨_,List.getElem?_eq_getElem hjl⟩
         have HANY:=Lib.hid (any_take (fun q=> q.pid==p.par && !(q.st==4)) hx2)
         obtain ⟨g2,o2,he,_,hc2⟩:=HEL.out j q hx2
         injection he with he
         injection he with eg eo
         subst eg eo
         have hBB:=(HB7.out.trans (HB8.out.mono HB7.out.size))
         have q0:wr.cell? ⟨gp,op + j * 26,none⟩=some (.int .i64 q.pid):=hc2 wr hBB 0 _ rfl
         have q2:wr.cell? ⟨gp,op + j * 26 + 2,none⟩=some (.int .i64 q.st):=hc2 wr hBB 2 _ rfl
         have p1:wr.cell? ⟨bq,1,none⟩=some (.int .i64 p.par):=hcell HP8.out 1
         have hi1:(j:Int)<(k.p.length:Int):=by omega
         have hi0:(0:Int)≤(j:Int):=by omega
         clear hx2 hc2 hBB
         repeat' (first|go_values|go_skip|go_guarded|(with_reducible first|refine Way.go ?_|refine wayO ?_)|go_step|go_upon)
         cases ht:(k.p.take j).any (fun q=> q.pid==p.par && !(q.st==4))
         · by_cases hpp:q.pid=p.par
           · have bb:(q.pid==p.par)=true:=by simp [hpp]
             have HBB:=Lib.hid bb
             refine wp_region_noPanic ?_
             refine go0 (S:=fun W=> W.cell? ⟨b,0,none⟩=some (.slice (some ⟨gp,op,none⟩) k.p.length pc)∧W.cell? ⟨gp,op + j * 26,none⟩=some (.int .i64 q.pid)∧W.cell? ⟨gp,op + j * 26 + 2,none⟩=some (.int .i64 q.st)∧W.cell? ⟨bq,1,none⟩=some (.int .i64 p.par)) [] (⟨j0,q0,q2,p1⟩) fun hS=> ?_
             refine tp 0 ?_;try simp only [acts]
             refine tp 1 ?_;try simp only [acts]
             refine tp 2 ?_;try simp only [acts]
             refine tl 3 ?_;try simp only [acts]
             refine tp 4 ?_;try simp only [acts]
             refine tp 5 ?_;try simp only [acts]
             refine tp 6 ?_;try simp only [acts]
             refine tl 7 ?_;try simp only [acts]
             refine tp 8 ?_;try simp only [acts]
             refine tl 9 ?_;try simp only [acts]
             refine tp 10 ?_;try simp only [acts]
             refine tp 11 ?_;try simp only [acts]
             refine tp 12 ?_;try simp only [acts]
             refine tl 13 ?_;try simp only [acts]
             refine tp 14 ?_;try simp only [acts]
             refine tp 15 ?_;try simp only [acts]
             refine tp 16 ?_;try simp only [acts]
             refine tl 17 ?_;try simp only [acts]
             refine tp 18 ?_;try simp only [acts]
             refine tp 19 ?_;try simp only [acts]
             refine tp 20 ?_;try simp only [acts]
             refine tp 21 ?_;try simp only [acts]
             refine doneL (by kernel_rfl) (NoPanic.normal ?_) _
             clear hS
             repeat' (first|go_values|go_skip|go_guarded|(with_reducible first|refine Way.go ?_|refine wayO ?_)|go_step|go_upon)
             exact ⟨⟨j + 1,by omega,by go_num,by rw [HANY.out];rw [ht,HBB.out];simp [bne],HB8.out.drew⟩,by simp [intOf];omega⟩
           · have bb:(q.pid==p.par)=false:=by simp [hpp]
             have HBB:=Lib.hid bb
             refine wp_region_noPanic ?_
             refine go0 (S:=fun W=> W.cell? ⟨b,0,none⟩=some (.slice (some ⟨gp,op,none⟩) k.p.length pc)∧W.cell? ⟨gp,op + j * 26,none⟩=some (.int .i64 q.pid)∧W.cell? ⟨gp,op + j * 26 + 2,none⟩=some (.int .i64 q.st)∧W.cell? ⟨bq,1,none⟩=some (.int .i64 p.par)) [] (⟨j0,q0,q2,p1⟩) fun hS=> ?_
             refine tp 0 ?_;try simp only [acts]
             refine tp 1 ?_;try simp only [acts]
             refine tp 2 ?_;try simp only [acts]
             refine tl 3 ?_;try simp only [acts]
             refine tp 4 ?_;try simp only [acts]
             refine tp 5 ?_;try simp only [acts]
             refine tp 6 ?_;try simp only [acts]
             refine tl 7 ?_;try simp only [acts]
             refine tp 8 ?_;try simp only [acts]
             refine tl 9 ?_;try simp only [acts]
             refine tp 10 ?_;try simp only [acts]
             refine tp 11 ?_;try simp only [acts]
             refine tn 12 ?_;try simp only [acts]
             refine tn 13 ?_;try simp only [acts]
             refine tn 14 ?_;try simp only [acts]
             refine tn 15 ?_;try simp only [acts]
             refine tn 16 ?_;try simp only [acts]
             refine tn 17 ?_;try simp only [acts]
             refine tn 18 ?_;try simp only [acts]
             refine tp 19 ?_;try simp only [acts]
             refine tp 20 ?_;try simp only [acts]
             refine tp 21 ?_;try simp only [acts]
             refine doneL (by kernel_rfl) (NoPanic.normal ?_) _
             clear hS
             repeat' (first|go_values|go_skip|go_guarded|(with_reducible first|refine Way.go ?_|refine wayO ?_)|go_step|go_upon)
             exact ⟨⟨j + 1,by omega,by go_num,by rw [HANY.out];rw [ht,HBB.out];rfl,HB8.out.drew⟩,by simp [intOf];omega⟩
         · skip
           refine wp_region_noPanic ?_
           refine go0 (S:=fun W=> W.cell? ⟨b,0,none⟩=some (.slice (some ⟨gp,op,none⟩) k.p.length pc)∧W.cell? ⟨gp,op + j * 26,none⟩=some (.int .i64 q.pid)∧W.cell? ⟨gp,op + j * 26 + 2,none⟩=some (.int .i64 q.st)∧W.cell? ⟨bq,1,none⟩=some (.int .i64 p.par)) [] (⟨j0,q0,q2,p1⟩) fun hS=> ?_
           refine tp 0 ?_;try simp only [acts]
           refine tp 1 ?_;try simp only [acts]
           refine tn 2 ?_;try simp only [acts]
           refine tn 3 ?_;try simp only [acts]
           refine tn 4 ?_;try simp only [acts]
           refine tn 5 ?_;try simp only [acts]
           refine tn 6 ?_;try simp only [acts]
           refine tn 7 ?_;try simp only [acts]
           refine tn 8 ?_;try simp only [acts]
           refine tn 9 ?_;try simp only [acts]
           refine tn 10 ?_;try simp only [acts]
           refine tn 11 ?_;try simp only [acts]
           refine tn 12 ?_;try simp only [acts]
           refine tn 13 ?_;try simp only [acts]
           refine tn 14 ?_;try simp only [acts]
           refine tn 15 ?_;try simp only [acts]
           refine tn 16 ?_;try simp only [acts]
           refine tn 17 ?_;try simp only [acts]
           refine tn 18 ?_;try simp only [acts]
           refine tn 19 ?_;try simp only [acts]
           refine tp 20 ?_;try simp only [acts]
           refine tp 21 ?_;try simp only [acts]
           refine doneL (by kernel_rfl) (NoPanic.normal ?_) _
           clear hS
           repeat' (first|go_values|go_skip|go_guarded|(with_reducible first|refine Way.go ?_|refine wayO ?_)|go_step|go_upon)
           exact ⟨⟨j + 1,by omega,by go_num,by rw [HANY.out];rw [ht];rfl,HB8.out.drew⟩,by simp [intOf];omega⟩
       · have hje:j=k.p.length:=by omega
         have hall:(k.p.take j).any (fun q=> q.pid==p.par && !(q.st==4))=true:=by rw [hje,List.take_length];exact HH6.out
         rw [hall]
         clear hall
         repeat' (first|go_values|go_skip|go_guarded|(with_reducible first|refine Way.go ?_|refine wayO ?_)|go_step|go_upon)
         exact ⟨⟨i + 1,by omega,by go_num,HB7.out.trans (HB8.out.mono HB7.out.size)⟩,by simp [intOf];omega⟩
    · have b4:(p.st !=4)=true:=by simp [h4]
      clear HH4 HT1 HT2 HT3
      repeat' (first
       |(refine wpList_load (t:=62) (v:=.agg p.cells) rfl rfl rfl (run_load_arr aggProc rfl HC.out) ?_)
       |(rw [hW6,hab];clear hW6)
       |(refine wpList_store (t:=62) (v:=.agg p.cells) (off:=0) (new:=p.cells) rfl rfl rfl rfl aggProc.size HP6.out rfl (show 0 + 26≤26 by decide) HON.out rfl ?_;intro W7 hp
         have HB7:=Lib.hid (Below.put HB6.out hp (by have:=HB.out.size;omega))
         have HP7:=pA hp
         have HK7:=pO hp HK6
         have p0:W7.cell? ⟨bq,0,none⟩=some (.int .i64 p.pid):=hcell HP7.out 0
         have p1:W7.cell? ⟨bq,1,none⟩=some (.int .i64 p.par):=hcell HP7.out 1
         have p2:W7.cell? ⟨bq,2,none⟩=some (.int .i64 p.st):=hcell HP7.out 2
         clear hp HP6 HK6 HB6 HON)
       |go_values|go_skip|go_guarded|(with_reducible first|refine Way.go ?_|refine wayO ?_)|go_step|go_upon)
      exact ⟨⟨i + 1,by omega,by go_num,HB7.out⟩,by simp [intOf];omega⟩
  · repeat' (first|go_values|go_skip|go_guarded|(with_reducible first|refine Way.go ?_|refine wayO ?_)|go_step|go_upon)
    go_ret
    exact gives_of rfl ((Kept.low HE_5.out (by omega)).trans (HB.out.mono (Kept.low HE_5.out (by omega)).size))
end Kn
end Go.Proofs.YtalapfkfdhpomaaGreatDoor
