/- The laws' helpers: few, steps, program. No condition. The laws' scripts: plays. Conditions: few rows; strings that there can be; the table of the instructions' parts lies there. The laws' scripts: plays, shown. Conditions: few rows; strings that there can be; the table of the instructions' parts lies there. The head of each law: the example, the rows' numbers, the script. Conditions: the table of the instructions' parts lies there. -/
import Derived.Test.YtalapfkfdhpomaaGreatDoorGTop
import Derived.Test.YtalapfkfdhpomaaGreatDoorGGood
import Derived.Test.YtalapfkfdhpomaaGreatDoorGStep
import Derived.Test.YtalapfkfdhpomaaGreatDoorKwArrive
import Derived.Test.YtalapfkfdhpomaaGreatDoorKwBoot
set_option linter.unusedVariables false
set_option linter.unusedSimpArgs false
namespace Go.Proofs.YtalapfkfdhpomaaGreatDoor
open Go.RowKit KR RegT3
namespace Kn
def gcells (g:Guest) (iv ov nv:Value):Array Value:=#[.int .i64 g.mem,iv,ov,nv,.int .u64 g.now]
def fewB (g:Guest):Bool:=decide (g.images.length≤8) && decide (g.outs.length≤8) && decide (g.ins_.length≤8)
set_option maxRecDepth 100000 in
theorem LFew (g:Guest) (iv ov nv:Value) (w:World) (hi:Rd 1 strCells w iv g.images) (ho:Rd 5 Chan.cells w ov g.outs) (hn:Rd 5 Chan.cells w nv g.ins_):
 Calls Tryz.prog 12 #[.agg (gcells g iv ov nv)] w (Gives (.bool (fewB g)) w):=by
 obtain ⟨a1,c1,rfl,_,_⟩:=hi.shape
 obtain ⟨a2,c2,rfl,_,_⟩:=ho.shape
 obtain ⟨a3,c3,rfl,_,_⟩:=hn.shape
 unfold gcells fewB
 have e1:decide ((g.images.length:Int)≤8)=decide (g.images.length≤8):=by simp;omega
 have e2:decide ((g.outs.length:Int)≤8)=decide (g.outs.length≤8):=by simp;omega
 have e3:decide ((g.ins_.length:Int)≤8)=decide (g.ins_.length≤8):=by simp;omega
 cases h1:decide (g.images.length≤8) <;> cases h2:decide (g.outs.length≤8) <;> cases h3:decide (g.ins_.length≤8)
 all_goals
  rw [h1] at e1
  rw [h2] at e2
  rw [h3] at e3
  clear h1 h2 h3
  go_enter Tryz.func12,Tryz.ntmps12
  repeat' (first|go_values|go_skip|go_guarded|(with_reducible refine Way.go ?_)|go_step|go_upon)
  go_ret
  exact gives_of (by simp) (by repeat with_reducible first|exact Below.refl _ _|assumption|refine Below.to ?_ (by assumption)|refine blN ?_|refine blA ?_|refine blS ?_|refine blD ?_)
theorem LSteps (n:Int) (w:World):Calls Tryz.prog 14 #[.int .i64 n] w (Is (.int .i64 (steps n)) w):=by
 unfold steps
 by_cases h:60<n
 · rw [if_pos h]
   go_enter Tryz.func14,Tryz.ntmps14
   repeat' (first|go_values|go_skip|go_guarded|(with_reducible refine Way.go ?_)|go_step|go_upon)
   go_ret
   exact ⟨rfl,rfl⟩
 · rw [if_neg h]
   go_enter Tryz.func14,Tryz.ntmps14
   repeat' (first|go_values|go_skip|go_guarded|(with_reducible refine Way.go ?_)|go_step|go_upon)
   go_ret
   exact ⟨rfl,rfl⟩
def exImage:ByteArray:=⟨#[6,0,0,1,0,0,0,24]⟩
def exBoot:Kern:=boot 64 [exImage] [] [] 0
theorem ex_trace:(run 2 exBoot).trace=[⟨1,6,1,1⟩]:=by kernel_rfl
theorem ex_good:Good 0 exBoot:=boot_good 64 [exImage] [] [] 0 (by decide) (by decide) (by decide) (by decide) (by decide) (by decide)
theorem LProgram (g:Nat) (w:World) (hh:w.heap[g]? =some (.cells #[.int .i64 1,.int .i64 0,.int .i64 0,.int .i64 6,.int .i64 24,.int .i64 0,.int .i64 0,.int .i64 0] 89 (0,0))):
 Calls Tryz.prog 25 #[.slice (some ⟨g,0,none⟩) 2 2] w (Gives (.string exImage) w):=by
 go_enter Tryz.func25,Tryz.ntmps25
 repeat' (first|go_values|go_skip|go_guarded|(with_reducible refine Way.go ?_)|go_step|go_upon)
 refine (RBytes2 g _ hh).mono ?_
 rintro e w1 ⟨rfl,h1⟩
 dsimp only
 repeat' (first|go_values|go_skip|go_guarded|(with_reducible refine Way.go ?_)|go_step|go_upon)
 go_ret
 exact gives_of rfl h1
abbrev SlDeed (W:World) (v:Value) (l:List Deed):Prop:=Rd 4 Deed.cells W v l
def PlaysR (w:World) (b:Nat) (g:Guest) (l:List Deed) (iv:Value) (W:World):Prop:=∃ (i:Nat) (y:Lay) (bs:List BoxV),i≤l.length∧i≤30∧iv=.int .i64 i∧W.heap[b]? =some (.cells (kcells y ((l.take i).foldl deed g.boot)) 43 (0,0))∧LayAt W y bs ((l.take i).foldl deed g.boot)∧
 W.heap[w.heap.size + 1]? =some (.cells #[.slice none 0 0,.slice none 0 0,.int .i64 0,.slice none 0 0,.slice none 0 0,.int .i64 0,.slice none 0 0,.int .u64 0,.slice none 0 0,.slice none 0 0,.slice none 0 0,.slice none 0 0,.string ⟨#[]⟩,.slice none 0 0,.slice none 0 0,.int .i64 0,.int .i64 0] 43 (0,0))∧KR.Kept b w W
theorem plays_take {l:List Deed} {i:Nat} {a:Deed} (h:l[i]? =some a) (k:Kern):(l.take (i + 1)).foldl deed k=deed ((l.take i).foldl deed k) a:=by
 rw [List.take_add_one,h,Option.toList_some,List.foldl_append]
 rfl
set_option maxRecDepth 100000 in
set_option maxHeartbeats 4000000 in
theorem SPlays (g:Guest) (iv ov nv lv:Value) (l:List Deed) (w:World) (hi:Rd 1 strCells w iv g.images) (ho:Rd 5 Chan.cells w ov g.outs) (hn:Rd 5 Chan.cells w nv g.ins_) (hl:SlDeed w lv l) (hg:GuestOk g) (hs:SmallDeeds l) (hT:Tab w):
 Calls Tryz.prog 13 #[.agg (gcells g iv ov nv),lv] w (GivesK (plays g l) w):=by
 have HG:=hU hg
 have HS:=hU hs
 have HT:=hU (fun W (h:Below w.heap.size w W)=> hT.below h)
 obtain ⟨la,lc,rfl,hlc,hlm⟩:=hl.shape
 have HLV:=hU hl.elem.2.2.2
 obtain ⟨q0,q1⟩:=two_new w w.heap.size (.cells (gcells g iv ov nv) 26) (.cells #[.slice none 0 0,.slice none 0 0,.int .i64 0,.slice none 0 0,.slice none 0 0,.int .i64 0,.slice none 0 0,.int .u64 0,.slice none 0 0,.slice none 0 0,.slice none 0 0,.slice none 0 0,.string ⟨#[]⟩,.slice none 0 0,.slice none 0 0,.int .i64 0,.int .i64 0] 43) rfl
 have hb0:Below w.heap.size w ((w.alloc (.cells (gcells g iv ov nv) 26)).alloc (.cells #[.slice none 0 0,.slice none 0 0,.int .i64 0,.slice none 0 0,.slice none 0 0,.int .i64 0,.slice none 0 0,.int .u64 0,.slice none 0 0,.slice none 0 0,.slice none 0 0,.slice none 0 0,.string ⟨#[]⟩,.slice none 0 0,.slice none 0 0,.int .i64 0,.int .i64 0] 43)):=(by repeat with_reducible first|exact Below.refl _ _|assumption|refine Below.to ?_ (by assumption)|refine blN ?_|refine blA ?_|refine blS ?_|refine blD ?_)
 obtain ⟨W0,hW0⟩:∃ W0,(w.alloc (.cells (gcells g iv ov nv) 26)).alloc (.cells #[.slice none 0 0,.slice none 0 0,.int .i64 0,.slice none 0 0,.slice none 0 0,.int .i64 0,.slice none 0 0,.int .u64 0,.slice none 0 0,.slice none 0 0,.slice none 0 0,.slice none 0 0,.string ⟨#[]⟩,.slice none 0 0,.slice none 0 0,.int .i64 0,.int .i64 0] 43)=W0:=⟨_,rfl⟩
 rw [hW0] at q0 q1 hb0
 have g0:W0.cell? ⟨w.heap.size,0,none⟩=some (.int .i64 g.mem):=hcell q0 0
 have g1:W0.cell? ⟨w.heap.size,1,none⟩=some iv:=hcell q0 1
 have g2:W0.cell? ⟨w.heap.size,2,none⟩=some ov:=hcell q0 2
 have g3:W0.cell? ⟨w.heap.size,3,none⟩=some nv:=hcell q0 3
 have g4:W0.cell? ⟨w.heap.size,4,none⟩=some (.int .u64 g.now):=hcell q0 4
 have HBT:=hU (SBoot g.mem iv ov nv g.images g.outs g.ins_ g.now W0 (hi.below hb0) (ho.below hb0) (hn.below hb0) (by have:=hg.im;omega) (by have:=hg.ou;omega) (by have:=hg.ins_;omega) hg.m0 hg.m1)
 have HR:=hU q1
 have HB:=hU hb0
 clear q0 q1 hb0 hi ho hn hl hg hs hT
 go_enter Tryz.func13,Tryz.ntmps13
 repeat' (first|(rw [hW0];clear hW0)|go_values|go_skip|go_guarded|(with_reducible refine Way.go ?_)|go_step|go_upon)
 refine HBT.out.mono ?_
 rintro er W1 ⟨v1,rfl,⟨y0,bs0,rfl,hl0⟩,hb1⟩
 clear g0 g1 g2 g3 g4 HBT
 have HB1:=hU (HB.out.trans (hb1.mono HB.out.size))
 have HR1:=nB hb1 HR
 have HL1:=hU hl0
 have hz1:=hlt HR1.out
 clear hb1 HB HR hl0
 dsimp only
 obtain ⟨b,hab,hbb⟩:∃ b,W1.heap.size=b∧w.heap.size + 1<b:=⟨_,rfl,hz1⟩
 obtain ⟨W2,hW2,hb2,HK2⟩:=nb1 (.cells #[.slice none 0 0,.slice none 0 0,.int .i64 0,.slice none 0 0,.slice none 0 0,.int .i64 0,.slice none 0 0,.int .u64 0,.slice none 0 0,.slice none 0 0,.slice none 0 0,.slice none 0 0,.string ⟨#[]⟩,.slice none 0 0,.slice none 0 0,.int .i64 0,.int .i64 0] 43) hab
 have HB2:=hU (HB1.out.trans (hb2.mono HB1.out.size))
 have HR2:=nB hb2 HR1
 have HL2:=nL hb2 HL1
 clear hb2 HB1 HR1 HL1
 have HO:=hU (onesK HL2.out)
 repeat' (first
  |(rw [hW2,hab];clear hW2)
  |(refine wpList_store (t:=43) (v:=.agg (kcells y0 g.boot)) (off:=0) (new:=kcells y0 g.boot) rfl rfl rfl rfl aggKern.size HK2.out rfl (show 0 + 17≤17 by decide) HO.out rfl ?_;intro W3 hp
    have HK3:=pA hp
    have HR3:=pO hp HR2
    have HE3:Hid (KR.Kept b w W3):=pK hp (hU (Kept.of HB2.out))
    have HL3:=pL hp HK2 HL2 noKern
    clear hp HK2 HR2 HB2 HL2)
  |go_values|go_skip|go_guarded|(with_reducible refine Way.go ?_)|go_step|go_upon)
 clear hab hz1 HO
 go_loopw [6] (fun iv wr=> PlaysR w b g l iv wr) (fun iv _=> l.length - (intOf iv).toNat)
 case atStart=> exact ⟨0,y0,bs0,Nat.zero_le _,Nat.zero_le _,rfl,HK3.out,HL3.out,HR3.out,HE3.out⟩
 case round=>
  clear HK3 HR3 HE3 HL3
  obtain ⟨i,yk,bs,hi,h30,rfl,hk0,hl0,hr0,he0⟩:=hrel
  obtain ⟨k,hkk⟩:∃ k,(l.take i).foldl deed g.boot=k:=⟨_,rfl⟩
  have HGD:Hid (Good (60 * i) k):=hU (by rw [← hkk];exact deeds_good HG.out HS.out i)
  rw [hkk] at hk0 hl0
  have HKK:=hU hkk
  have HK_0:=hU hk0
  have HL_0:=hU hl0
  have HR_0:=hU hr0
  have HE_0:=hU he0
  have hz0:=he0.size
  have hzK:=hlt hk0
  clear hk0 hl0 hr0 he0 hkk
  have hc1:decide ((i:Int)<(l.length:Int))=decide (i<l.length):=by simp
  have hc2:decide ((i:Int)<30)=decide (i<30):=by simp;omega
  by_cases hil:i<l.length∧i<30
  · obtain ⟨hi1,hi2⟩:=hil
    rw [decide_eq_true hi1] at hc1
    rw [decide_eq_true hi2] at hc2
    obtain ⟨a,hx⟩:∃ a,l[i]? =some a:=⟨_,List.getElem?_eq_getElem hi1⟩
    obtain ⟨gb,off,hla,hgb,hcell0⟩:=HLV.out i a hx
    subst hla
    have HC:=hU (fun W (h:KR.Kept b w W)=> hcell0 W (Kept.low h (by omega)))
    have hsm:=HS.out a (List.mem_of_getElem? hx)
    have htk:=plays_take hx g.boot
    rw [HKK.out] at htk
    have HTK:=hU htk
    clear hcell0 hx htk HLV
    have c0:wr.cell? ⟨gb,off + i * 4,none⟩=some (.int .i64 a.kind):=HC.out wr HE_0.out 0 _ rfl
    have hj1:(i:Int)<(l.length:Int):=by omega
    have hj0:(0:Int)≤(i:Int):=by omega
    by_cases h2:a.kind=2
    · have k2:(a.kind==2)=true:=by simp [h2]
      have k1:(a.kind==1)=false:=by simp [h2]
      repeat' (first|go_values|go_skip|go_guarded|(with_reducible refine Way.go ?_)|go_step|go_upon)
      refine wp_region_noPanic ?_
      refine go0 (S:=fun W=> (W.heap[b]? =some (.cells (kcells yk k) 43 (0,0)))∧(W.cell? ⟨gb,off + i * 4 + 1,none⟩=some (.int .i64 a.n))∧(W.cell? ⟨gb,off + i * 4 + 2,none⟩=some (.string a.body))∧(W.cell? ⟨gb,off + i * 4 + 3,none⟩=some (.int .u64 a.at_))) [17] (⟨HK_0.out,HC.out _ HE_0.out 1 _ rfl,HC.out _ HE_0.out 2 _ rfl,HC.out _ HE_0.out 3 _ rfl⟩) fun hS=> ?_
      obtain ⟨W1,hWd⟩:=exW wr.drew
      have HK_1:=dB hWd HK_0
      have HR_1:=dB hWd HR_0
      have HE_1:=dE hWd HE_0
      have HL_1:=dL hWd HL_0
      rw [hWd] at hS ⊢
      clear hWd
      clear HK_0 HR_0 HE_0 HL_0
      refine tv 0 (.agg (kcells yk k)) (fun W hSW=> run_val_load rfl rfl (run_load_whole aggKern hSW.1 rfl)) ?_
      (try simp only [acts])
      refine tp 1 ?_;try simp only [acts]
      refine tp 2 ?_;try simp only [acts]
      refine tp 3 ?_;try simp only [acts]
      refine tp 4 ?_;try simp only [acts]
      refine tl 5 ?_;try simp only [acts]
      refine tp 6 ?_;try simp only [acts]
      refine tp 7 ?_;try simp only [acts]
      refine tp 8 ?_;try simp only [acts]
      refine tp 9 ?_;try simp only [acts]
      refine tl 10 ?_;try simp only [acts]
      refine tp 11 ?_;try simp only [acts]
      refine tp 12 ?_;try simp only [acts]
      refine tp 13 ?_;try simp only [acts]
      refine tp 14 ?_;try simp only [acts]
      refine tl 15 ?_;try simp only [acts]
      refine ro 16 fun K hK=> ?_
      refine want rfl ?_
      go_simp
      refine (SArrive _ k a.n a.body a.at_ _ ⟨yk,bs,rfl,HL_1.out⟩ (by have:=HGD.out.bl;omega) (by have:=HGD.out.il;omega) (fun q hq=> by have:=HGD.out.bn q hq;omega)).mono ?_
      rintro er W2 ⟨v2,rfl,⟨y2,bs2,rfl,hl2⟩,hb⟩
      have HK_2:=nB hb HK_1
      have HR_2:=nB hb HR_1
      have HE_2:=nE hb HE_1
      have HL_2:=nL hb HL_1
      clear HK_1 HR_1 HE_1 HL_1
      clear hb
      dsimp only
      try clear hS
      refine nx hK (⟨HK_2.out,HC.out _ HE_2.out 1 _ rfl,HC.out _ HE_2.out 2 _ rfl,HC.out _ HE_2.out 3 _ rfl⟩) fun hS=> ?_
      clear hK K
      (try simp only [acts])
      clear HL_2
      have HL_2:=hU hl2
      clear hl2
      refine ro 17 fun K hK=> ?_
      refine want rfl ?_
      refine wp_store (v:=.agg (kcells y2 (arrive k a.n a.body a.at_))) (off:=0) (new:=kcells y2 (arrive k a.n a.body a.at_)) rfl rfl rfl aggKern.size HK_2.out rfl (show 0 + 17≤17 by decide) (onesK HL_2.out) rfl ?_
      intro W3 hp
      have HL_3:Hid (LayAt W3 y2 bs2 (arrive k a.n a.body a.at_)):=hU ((HL_2.out).put HK_2.out noKern hp)
      have HE_3:=pK hp HE_2
      have HK_3:Hid (W3.heap[b]? =some (.cells (kcells y2 (arrive k a.n a.body a.at_)) 43 (0,0))):=pA hp
      have HR_3:=pO hp HR_2
      clear hp
      clear HK_2 HR_2 HE_2 HL_2
      refine nt hK ?_
      clear hK K
      try clear hS
      (try simp only [acts])
      refine doneL (by kernel_rfl) (NoPanic.normal ?_) _
      try clear hS
      have c0':W3.cell? ⟨gb,off + i * 4,none⟩=some (.int .i64 a.kind):=HC.out _ HE_3.out 0 _ rfl
      clear c0
      have hdd:deed k a=arrive k a.n a.body a.at_:=if_pos h2
      repeat' (first|go_values|go_skip|go_guarded|(with_reducible refine Way.go ?_)|go_step|go_upon)
      exact ⟨⟨i + 1,y2,bs2,by omega,by omega,by go_num,by rw [HTK.out,hdd];exact HK_3.out,by rw [HTK.out,hdd];exact HL_3.out,HR_3.out,HE_3.out⟩,by simp [intOf];omega⟩
    · have k2:(a.kind==2)=false:=by simpa using h2
      by_cases h1:a.kind=1
      · have k1:(a.kind==1)=true:=by simp [h1]
        have hst:steps a.n≤60:=by unfold steps;split <;> omega
        repeat' (first|go_values|go_skip|go_guarded|(with_reducible refine Way.go ?_)|go_step|go_upon)
        refine wp_region_noPanic ?_
        refine go0 (S:=fun W=> (W.heap[b]? =some (.cells (kcells yk k) 43 (0,0)))∧(W.cell? ⟨gb,off + i * 4 + 1,none⟩=some (.int .i64 a.n))) [8] (⟨HK_0.out,HC.out _ HE_0.out 1 _ rfl⟩) fun hS=> ?_
        obtain ⟨W1,hWd⟩:=exW wr.drew
        have HK_1:=dB hWd HK_0
        have HR_1:=dB hWd HR_0
        have HE_1:=dE hWd HE_0
        have HL_1:=dL hWd HL_0
        rw [hWd] at hS ⊢
        clear hWd
        clear HK_0 HR_0 HE_0 HL_0
        refine tv 0 (.agg (kcells yk k)) (fun W hSW=> run_val_load rfl rfl (run_load_whole aggKern hSW.1 rfl)) ?_
        (try simp only [acts])
        refine tp 1 ?_;try simp only [acts]
        refine tp 2 ?_;try simp only [acts]
        refine tp 3 ?_;try simp only [acts]
        refine tp 4 ?_;try simp only [acts]
        refine tl 5 ?_;try simp only [acts]
        refine ro 6 fun K hK=> ?_
        refine want rfl ?_
        go_simp
        refine (LSteps a.n _).mono ?_
        rintro er Wx ⟨rfl,rfl⟩
        dsimp only
        try clear hS
        refine nx hK (⟨HK_1.out,HC.out _ HE_1.out 1 _ rfl⟩) fun hS=> ?_
        clear hK K
        (try simp only [acts])
        refine ro 7 fun K hK=> ?_
        refine want rfl ?_
        go_simp
        refine (SRun _ k (steps a.n).toNat (steps a.n) _ ⟨yk,bs,rfl,HL_1.out⟩ rfl (by omega) (fun j hj=> (HGD.out.run j).ready (by omega)) (HT.out _ (Kept.low HE_1.out (by omega)))).mono ?_
        rintro er W2 ⟨v2,rfl,⟨y2,bs2,rfl,hl2⟩,hb⟩
        have HK_2:=nB hb HK_1
        have HR_2:=nB hb HR_1
        have HE_2:=nE hb HE_1
        have HL_2:=nL hb HL_1
        clear HK_1 HR_1 HE_1 HL_1
        clear hb
        dsimp only
        try clear hS
        refine nx hK (⟨HK_2.out,HC.out _ HE_2.out 1 _ rfl⟩) fun hS=> ?_
        clear hK K
        (try simp only [acts])
        clear HL_2
        have HL_2:=hU hl2
        clear hl2
        refine ro 8 fun K hK=> ?_
        refine want rfl ?_
        refine wp_store (v:=.agg (kcells y2 (run (steps a.n).toNat k))) (off:=0) (new:=kcells y2 (run (steps a.n).toNat k)) rfl rfl rfl aggKern.size HK_2.out rfl (show 0 + 17≤17 by decide) (onesK HL_2.out) rfl ?_
        intro W3 hp
        have HL_3:Hid (LayAt W3 y2 bs2 (run (steps a.n).toNat k)):=hU ((HL_2.out).put HK_2.out noKern hp)
        have HE_3:=pK hp HE_2
        have HK_3:Hid (W3.heap[b]? =some (.cells (kcells y2 (run (steps a.n).toNat k)) 43 (0,0))):=pA hp
        have HR_3:=pO hp HR_2
        clear hp
        clear HK_2 HR_2 HE_2 HL_2
        refine nt hK ?_
        clear hK K
        try clear hS
        (try simp only [acts])
        refine doneL (by kernel_rfl) (NoPanic.normal ?_) _
        try clear hS
        have hdd:deed k a=run (steps a.n).toNat k:=by unfold deed;rw [if_neg h2,if_pos h1]
        repeat' (first|go_values|go_skip|go_guarded|(with_reducible refine Way.go ?_)|go_step|go_upon)
        exact ⟨⟨i + 1,y2,bs2,by omega,by omega,by go_num,by rw [HTK.out,hdd];exact HK_3.out,by rw [HTK.out,hdd];exact HL_3.out,HR_3.out,HE_3.out⟩,by simp [intOf];omega⟩
      · have k1:(a.kind==1)=false:=by simpa using h1
        have hdd:deed k a=k:=by unfold deed;rw [if_neg h2,if_neg h1]
        repeat' (first|go_values|go_skip|go_guarded|(with_reducible refine Way.go ?_)|go_step|go_upon)
        exact ⟨⟨i + 1,yk,bs,by omega,by omega,by go_num,by rw [HTK.out,hdd];exact HK_0.out,by rw [HTK.out,hdd];exact HL_0.out,HR_0.out,HE_0.out⟩,by simp [intOf];omega⟩
  · have hte:(l.take i).foldl deed g.boot=plays g l:=by
     unfold plays
     rcases Nat.lt_or_ge i l.length with h|h
     · have:i=30:=by omega
       rw [this]
     · rw [List.take_of_length_le h,List.take_of_length_le (by omega)]
    rw [HKK.out] at hte
    subst hte
    by_cases hi1:i<l.length
    · rw [decide_eq_true hi1] at hc1
      rw [decide_eq_false (by omega)] at hc2
      skip
      repeat' (first
       |(refine wpList_load (t:=43) (v:=.agg (kcells yk (plays g l))) rfl rfl rfl (run_load_whole aggKern HK_0.out rfl) ?_)
       |(refine wpList_store (t:=43) (v:=.agg (kcells yk (plays g l))) (off:=0) (new:=(kcells yk (plays g l))) rfl rfl rfl rfl aggKern.size HR_0.out rfl (show 0 + 17≤17 by decide) (onesK HL_0.out) rfl ?_;intro W1 hp
         have HE_1:=pE hp HE_0
         have HL_1:=pL hp HR_0 HL_0
         have HR_1:=pA hp
         have HK_1:=pO hp HK_0
         clear hp
         clear HK_0 HR_0 HE_0 HL_0)
       |go_values|go_skip|go_guarded|(with_reducible refine Way.go ?_)|go_step|go_upon)
      (try simp only [Exit.inBlock,Exit.then]);refine bodyPost_ret (res_cell Tryz.results13 aggKern rfl HR_1.out rfl) rfl ?_
      exact ⟨_,rfl,⟨_,_,rfl,HL_1.out⟩,Kept.low HE_1.out (by omega)⟩
    · rw [decide_eq_false hi1] at hc1
      clear hc2
      skip
      repeat' (first
       |(refine wpList_load (t:=43) (v:=.agg (kcells yk (plays g l))) rfl rfl rfl (run_load_whole aggKern HK_0.out rfl) ?_)
       |(refine wpList_store (t:=43) (v:=.agg (kcells yk (plays g l))) (off:=0) (new:=(kcells yk (plays g l))) rfl rfl rfl rfl aggKern.size HR_0.out rfl (show 0 + 17≤17 by decide) (onesK HL_0.out) rfl ?_;intro W1 hp
         have HE_1:=pE hp HE_0
         have HL_1:=pL hp HR_0 HL_0
         have HR_1:=pA hp
         have HK_1:=pO hp HK_0
         clear hp
         clear HK_0 HR_0 HE_0 HL_0)
       |go_values|go_skip|go_guarded|(with_reducible refine Way.go ?_)|go_step|go_upon)
      (try simp only [Exit.inBlock,Exit.then]);refine bodyPost_ret (res_cell Tryz.results13 aggKern rfl HR_1.out rfl) rfl ?_
      exact ⟨_,rfl,⟨_,_,rfl,HL_1.out⟩,Kept.low HE_1.out (by omega)⟩
theorem splice_whole' (cur vs:Array Value) (h:cur.size=vs.size):splice cur 0 vs=vs:=by
 unfold splice
 rw [List.take_zero,List.nil_append,Nat.zero_add,← h,← Array.length_toList,List.drop_length,List.append_nil,Array.toArray_toList]
set_option maxRecDepth 100000 in
set_option maxHeartbeats 4000000 in
theorem LShown (w:World) (hT:Tab w):Calls Tryz.prog 11 #[] w (Gives (.bool true) w):=by
 go_enter Tryz.func11,Tryz.ntmps11
 repeat' (first|go_values|go_skip|go_guarded|(with_reducible refine Way.go ?_)|go_step|go_upon)
 obtain ⟨W1,hW1,hb1,h1⟩:=nb1 (W:=w) (.cells #[.int .i64 1,.int .i64 0,.int .i64 0,.int .i64 6,.int .i64 24,.int .i64 0,.int .i64 0,.int .i64 0] 89) rfl
 rw [hW1]
 clear hW1
 refine (LProgram _ _ h1.out).mono ?_
 rintro e w2 ⟨rfl,hb2⟩
 have hB2:=hb1.trans (hb2.mono hb1.size)
 clear hb1 hb2 h1
 dsimp only
 repeat' (first|go_values|go_skip|go_guarded|(with_reducible refine Way.go ?_)|go_step|go_upon)
 obtain ⟨W3,hW3,hb3,h3⟩:=nb1 (W:=w2) (.cells #[.string exImage] 9) rfl
 rw [hW3]
 clear hW3
 have hB3:=hB2.trans (hb3.mono hB2.size)
 clear hB2 hb3
 have hs:SlStr W3 (.slice (some ⟨w2.heap.size,0,none⟩) 1 1) [exImage]:=⟨_,1,rfl,by decide,by decide,.inr ⟨_,0,_,rfl,h3.out,fun i x hx j u hj=> by
  match i,hx with
  |0,hx=>
   obtain rfl:=Option.some.inj hx
   simpa [strCells] using hj⟩⟩
 refine (SBoot 64 _ (.slice none 0 0) (.slice none 0 0) [exImage] [] [] 0 _ hs.rd Rd.nil Rd.nil (by decide) (by decide) (by decide) (by decide) (by decide)).mono ?_
 rintro e w4 ⟨v4,rfl,hk4,hb4⟩
 have hB4:=hB3.trans (hb4.mono hB3.size)
 clear hB3 hb4 hs h3
 dsimp only
 repeat' (first|go_values|go_skip|go_guarded|(with_reducible refine Way.go ?_)|go_step|go_upon)
 refine (SRun v4 exBoot 2 2 _ hk4 rfl (by decide) (fun i hi=> (ex_good.run i).ready (by omega)) (hT.below hB4)).mono ?_
 rintro e w5 ⟨v5,rfl,⟨y5,bs5,rfl,hl5⟩,hb5⟩
 have hB5:=hB4.trans (hb5.mono hB4.size)
 clear hB4 hb5 hk4
 have htr:=hl5.tr
 rw [ex_trace] at htr
 obtain ⟨ta,tc,hta,htc,htm⟩:=htr.shape
 rw [hta] at htr
 obtain ⟨gb,go_,hga,hgb,hgc⟩:=htr.elem.2.2.2 0 _ rfl
 subst hga
 have HON:=hU (onesK hl5)
 have HTA:=hU hta
 have HGC:=hU hgc
 clear hta hgc htr hl5
 dsimp only
 obtain ⟨W6,hW6,hb6,h6⟩:=nb1 (W:=w5) (.cells #[.slice none 0 0,.slice none 0 0,.int .i64 0,.slice none 0 0,.slice none 0 0,.int .i64 0,.slice none 0 0,.int .u64 0,.slice none 0 0,.slice none 0 0,.slice none 0 0,.slice none 0 0,.string ⟨#[]⟩,.slice none 0 0,.slice none 0 0,.int .i64 0,.int .i64 0] 43) rfl
 have HB6:=hU hb6
 have H6:=hU h6
 clear hb6 h6
 repeat' (first
  |(rw [hW6];clear hW6)
  |(refine wpList_store (t:=43) (v:=.agg (kcells y5 (run 2 exBoot))) (off:=0) (new:=kcells y5 (run 2 exBoot)) rfl rfl rfl rfl aggKern.size H6.out.out rfl (show 0 + 17≤17 by decide) HON.out rfl ?_;intro W7 hp
    have HB7:=hU (Below.put (B:=w5.heap.size) HB6.out hp (Nat.le_refl _))
    have k13:W7.cell? ⟨w5.heap.size,13,none⟩=some (.slice (some ⟨gb,go_,none⟩) 1 tc):=(hcell hp.at_ 13).trans (congrArg some HTA.out)
    have e0:W7.cell? ⟨gb,go_,none⟩=some (.int .i64 1):=HGC.out W7 HB7.out 0 _ rfl
    have e1:W7.cell? ⟨gb,go_ + 1,none⟩=some (.int .u32 6):=HGC.out W7 HB7.out 1 _ rfl
    have e2:W7.cell? ⟨gb,go_ + 2,none⟩=some (.int .u32 1):=HGC.out W7 HB7.out 2 _ rfl
    have e3:W7.cell? ⟨gb,go_ + 3,none⟩=some (.int .u64 1):=HGC.out W7 HB7.out 3 _ rfl
    clear hp)
  |go_values|go_skip|go_guarded|(with_reducible refine Way.go ?_)|go_step|go_upon)
 go_ret
 exact gives_of (by simp) (hB5.trans (HB7.out.mono hB5.size))
theorem aggGuest:Agg Tryz.prog 26 5:=agg_of Tryz.underlying26 rfl (by kernel_rfl)
theorem few_ok {g:Guest} (h:fewB g=true) (h0:0≤g.now) (h1:g.now≤18446744073709551615) (h2: -9223372036854775808≤g.mem) (h3:g.mem≤9223372036854775807):GuestOk g:=by
 unfold fewB at h
 simp only [Bool.and_eq_true,decide_eq_true_eq] at h
 exact ⟨h.1.1,h.1.2,h.2,h0,h1,h2,h3⟩
theorem plays_stop {l:List Deed} {i:Nat} (hi:i≤l.length) (h30:i≤30) (h:¬ (i<l.length∧i<30)):l.take i=l.take 30:=by
 rcases Nat.lt_or_ge i l.length with hl|hl
 · have:i=30:=by omega
   rw [this]
 · rw [List.take_of_length_le hl,List.take_of_length_le (by omega)]
end Kn
end Go.Proofs.YtalapfkfdhpomaaGreatDoor
