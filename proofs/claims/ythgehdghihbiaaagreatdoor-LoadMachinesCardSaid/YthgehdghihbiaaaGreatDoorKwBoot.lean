/- kern.Boot: a guest of images. Conditions: as many as Go can hold. -/
import Derived.Test.YthgehdghihbiaaaGreatDoorKwFresh
import Derived.Test.YthgehdghihbiaaaGreatDoorGSeg
import Derived.Test.YthgehdghihbiaaaGreatDoorGTop
set_option linter.unusedVariables false
set_option maxRecDepth 100000
set_option maxHeartbeats 8000000
set_option linter.unusedSimpArgs false
namespace Go.Proofs.YthgehdghihbiaaaGreatDoor
open Go.RowKit KR RegT3
namespace Kn
theorem LayAt.setHs {W:World} {y:Lay} {bs:List BoxV} {k:Kern} (h:LayAt W y bs k) (x:Int) {v:Value} (hv:SlS W v k.h):LayAt W {y with h:=v} bs {k with hs:=x}:=⟨h.p,h.t,h.s,h.pi,hv,h.im,h.ou,h.ins_,h.bx,h.bse,h.ok,h.tr,h.se⟩
theorem SBoot (mem:Int) (iv ov nv:Value) (images:List ByteArray) (outs ins_:List Chan) (now:Int) (w:World) (hi:Rd 1 strCells w iv images) (ho:Rd 5 Chan.cells w ov outs) (hn:Rd 5 Chan.cells w nv ins_) (h1:images.length≤8796093022207) (h2:outs.length≤1000000) (h3:ins_.length≤1000000) (m0: -9223372036854775808≤mem) (m1:mem≤9223372036854775807):
 Calls Tryz.prog 61 #[.int .i64 mem,iv,ov,nv,.int .u64 now] w (GivesK (boot mem images outs ins_ now) w):=by
 obtain ⟨na,nc,rfl,hnc,hnm⟩:=hn.shape
 have HI:=hU (fun W (h:Below w.heap.size w W)=> hi.below h)
 have HO:=hU (fun W (h:Below w.heap.size w W)=> ho.below h)
 have HN:=hU (fun W (h:Below w.heap.size w W)=> hn.below h)
 clear hi ho hn
 obtain ⟨W0,hW0,hb0,HR_0⟩:=nb1 (W:=w) (.cells #[.slice none 0 0,.slice none 0 0,.int .i64 0,.slice none 0 0,.slice none 0 0,.int .i64 0,.slice none 0 0,.int .u64 0,.slice none 0 0,.slice none 0 0,.slice none 0 0,.slice none 0 0,.string ⟨#[]⟩,.slice none 0 0,.slice none 0 0,.int .i64 0,.int .i64 0] 70) rfl
 have HB_0:=hU hb0
 clear hb0
 go_enter Tryz.func61,Tryz.ntmps61
 repeat' (first|(rw [hW0];clear hW0)|go_values|go_skip|go_guarded|(with_reducible refine wg ?_)|go_step|go_upon)
 refine wp_region_noPanic ?_
 refine go0 (S:=fun W=> True) [] trivial fun hS=> ?_
 obtain ⟨W1,hWd⟩:=exW W0.drew
 have HR_1:=dB hWd HR_0
 have HB_1:Hid (Below w.heap.size w W1):=hU (by rw [← hWd];exact HB_0.out.drew)
 rw [hWd]
 clear hWd HR_0 HB_0
 refine tp 0 ?_;try simp only [acts]
 refine tp 2 ?_;try simp only [acts]
 refine tp 4 ?_;try simp only [acts]
 refine tp 6 ?_;try simp only [acts]
 refine tp 7 ?_;try simp only [acts]
 refine tp 9 ?_;try simp only [acts]
 clear hS
 revert HR_1 HB_1
 apply join5 (F:=fun (v1 v2 v3 v4:Value) (W5:World)=> Hid (SlStr W5 v1 images)∧Hid (SlCh W5 v2 outs)∧Hid (SlCh W5 v3 ins_)∧Hid (SlBx W5 v4 (List.replicate ins_.length zbox))∧Hid (W5.heap[w.heap.size]? =some (.cells #[.slice none 0 0,.slice none 0 0,.int .i64 0,.slice none 0 0,.slice none 0 0,.int .i64 0,.slice none 0 0,.int .u64 0,.slice none 0 0,.slice none 0 0,.slice none 0 0,.slice none 0 0,.string ⟨#[]⟩,.slice none 0 0,.slice none 0 0,.int .i64 0,.int .i64 0] 70 (0,0)))∧Hid (Below w.heap.size w W5))
 case h2=>
  intro hj HR_1 HB_1
  refine twoL (i:=1) (j:=8) (by kernel_rfl) rfl rfl (fun K hK=> ?_) (fun K hK=> ?_)
  · skip
    refine want rfl ?_
    go_simp
    refine (cloneStrR _ images _ (HI.out _ HB_1.out) (by omega)).mono ?_
    rintro er W2 ⟨v1,rfl,hv,hb⟩
    have V1_2:=hU (KR.Own.sl szStr hv)
    clear hv
    dsimp only
    have HR_2:=nB hb HR_1
    have HB_2:=hU (HB_1.out.trans (hb.mono HB_1.out.size))
    clear hb HR_1 HB_1
    refine nx hK trivial fun hS=> ?_
    clear hK K
    (try simp only [acts])
    refine twoL (i:=3) (j:=8) (by kernel_rfl) rfl rfl (fun K hK=> ?_) (fun K hK=> ?_)
    · skip
      refine want rfl ?_
      go_simp
      refine (cloneChanR _ outs _ (HO.out _ HB_2.out) (by omega)).mono ?_
      rintro er W3 ⟨v2,rfl,hv,hb⟩
      have V2_3:=hU (KR.Own.sl szChan hv)
      clear hv
      dsimp only
      have V1_3:=hU (V1_2.out.below hb)
      clear V1_2
      have HR_3:=nB hb HR_2
      have HB_3:=hU (HB_2.out.trans (hb.mono HB_2.out.size))
      clear hb HR_2 HB_2
      refine nx hK trivial fun hS=> ?_
      clear hK K
      (try simp only [acts])
      refine twoL (i:=5) (j:=8) (by kernel_rfl) rfl rfl (fun K hK=> ?_) (fun K hK=> ?_)
      · skip
        refine want rfl ?_
        go_simp
        refine (cloneChanR _ ins_ _ (HN.out _ HB_3.out) (by omega)).mono ?_
        rintro er W4 ⟨v3,rfl,hv,hb⟩
        have V3_4:=hU (KR.Own.sl szChan hv)
        clear hv
        dsimp only
        have V1_4:=hU (V1_3.out.below hb)
        clear V1_3
        have V2_4:=hU (V2_3.out.below hb)
        clear V2_3
        have HR_4:=nB hb HR_3
        have HB_4:=hU (HB_3.out.trans (hb.mono HB_3.out.size))
        clear hb HR_3 HB_3
        refine nx hK trivial fun hS=> ?_
        clear hK K
        (try simp only [acts])
        refine ro 8 fun K hK=> ?_
        refine want rfl ?_
        obtain ⟨v4,W5,hrun,hv4,hb⟩:=mkBoxes W4 ins_.length h3
        refine wp_make (vx:=.int .i64 (ins_.length:Int)) (vy:=.int .i64 (ins_.length:Int)) rfl rfl rfl hrun ?_
        clear hrun
        have V4_5:=hU hv4
        clear hv4
        have V1_5:=hU (V1_4.out.below hb)
        clear V1_4
        have V2_5:=hU (V2_4.out.below hb)
        clear V2_4
        have V3_5:=hU (V3_4.out.below hb)
        clear V3_4
        have HR_5:=nB hb HR_4
        have HB_5:=hU (HB_4.out.trans (hb.mono HB_4.out.size))
        clear hb HR_4 HB_4
        refine nx hK trivial fun hS=> ?_
        clear hK K
        (try simp only [acts])
        exact hj v1 v2 v3 v4 W5 ⟨V1_5,V2_5,V3_5,V4_5,HR_5,HB_5⟩
      · skip
        refine want rfl ?_
        obtain ⟨v4,W4,hrun,hv4,hb⟩:=mkBoxes W3 ins_.length h3
        refine wp_make (vx:=.int .i64 (ins_.length:Int)) (vy:=.int .i64 (ins_.length:Int)) rfl rfl rfl hrun ?_
        clear hrun
        have V4_4:=hU hv4
        clear hv4
        have V1_4:=hU (V1_3.out.below hb)
        clear V1_3
        have V2_4:=hU (V2_3.out.below hb)
        clear V2_3
        have HR_4:=nB hb HR_3
        have HB_4:=hU (HB_3.out.trans (hb.mono HB_3.out.size))
        clear hb HR_3 HB_3
        refine nx hK trivial fun hS=> ?_
        clear hK K
        (try simp only [acts])
        refine ro 5 fun K hK=> ?_
        refine want rfl ?_
        go_simp
        refine (cloneChanR _ ins_ _ (HN.out _ HB_4.out) (by omega)).mono ?_
        rintro er W5 ⟨v3,rfl,hv,hb⟩
        have V3_5:=hU (KR.Own.sl szChan hv)
        clear hv
        dsimp only
        have V1_5:=hU (V1_4.out.below hb)
        clear V1_4
        have V2_5:=hU (V2_4.out.below hb)
        clear V2_4
        have V4_5:=hU (V4_4.out.below hb)
        clear V4_4
        have HR_5:=nB hb HR_4
        have HB_5:=hU (HB_4.out.trans (hb.mono HB_4.out.size))
        clear hb HR_4 HB_4
        refine nx hK trivial fun hS=> ?_
        clear hK K
        (try simp only [acts])
        exact hj v1 v2 v3 v4 W5 ⟨V1_5,V2_5,V3_5,V4_5,HR_5,HB_5⟩
    · skip
      refine want rfl ?_
      obtain ⟨v4,W3,hrun,hv4,hb⟩:=mkBoxes W2 ins_.length h3
      refine wp_make (vx:=.int .i64 (ins_.length:Int)) (vy:=.int .i64 (ins_.length:Int)) rfl rfl rfl hrun ?_
      clear hrun
      have V4_3:=hU hv4
      clear hv4
      have V1_3:=hU (V1_2.out.below hb)
      clear V1_2
      have HR_3:=nB hb HR_2
      have HB_3:=hU (HB_2.out.trans (hb.mono HB_2.out.size))
      clear hb HR_2 HB_2
      refine nx hK trivial fun hS=> ?_
      clear hK K
      (try simp only [acts])
      refine ro 3 fun K hK=> ?_
      refine want rfl ?_
      go_simp
      refine (cloneChanR _ outs _ (HO.out _ HB_3.out) (by omega)).mono ?_
      rintro er W4 ⟨v2,rfl,hv,hb⟩
      have V2_4:=hU (KR.Own.sl szChan hv)
      clear hv
      dsimp only
      have V1_4:=hU (V1_3.out.below hb)
      clear V1_3
      have V4_4:=hU (V4_3.out.below hb)
      clear V4_3
      have HR_4:=nB hb HR_3
      have HB_4:=hU (HB_3.out.trans (hb.mono HB_3.out.size))
      clear hb HR_3 HB_3
      refine nx hK trivial fun hS=> ?_
      clear hK K
      (try simp only [acts])
      refine ro 5 fun K hK=> ?_
      refine want rfl ?_
      go_simp
      refine (cloneChanR _ ins_ _ (HN.out _ HB_4.out) (by omega)).mono ?_
      rintro er W5 ⟨v3,rfl,hv,hb⟩
      have V3_5:=hU (KR.Own.sl szChan hv)
      clear hv
      dsimp only
      have V1_5:=hU (V1_4.out.below hb)
      clear V1_4
      have V4_5:=hU (V4_4.out.below hb)
      clear V4_4
      have V2_5:=hU (V2_4.out.below hb)
      clear V2_4
      have HR_5:=nB hb HR_4
      have HB_5:=hU (HB_4.out.trans (hb.mono HB_4.out.size))
      clear hb HR_4 HB_4
      refine nx hK trivial fun hS=> ?_
      clear hK K
      (try simp only [acts])
      exact hj v1 v2 v3 v4 W5 ⟨V1_5,V2_5,V3_5,V4_5,HR_5,HB_5⟩
  · skip
    refine want rfl ?_
    obtain ⟨v4,W2,hrun,hv4,hb⟩:=mkBoxes W1 ins_.length h3
    refine wp_make (vx:=.int .i64 (ins_.length:Int)) (vy:=.int .i64 (ins_.length:Int)) rfl rfl rfl hrun ?_
    clear hrun
    have V4_2:=hU hv4
    clear hv4
    have HR_2:=nB hb HR_1
    have HB_2:=hU (HB_1.out.trans (hb.mono HB_1.out.size))
    clear hb HR_1 HB_1
    refine nx hK trivial fun hS=> ?_
    clear hK K
    (try simp only [acts])
    refine ro 1 fun K hK=> ?_
    refine want rfl ?_
    go_simp
    refine (cloneStrR _ images _ (HI.out _ HB_2.out) (by omega)).mono ?_
    rintro er W3 ⟨v1,rfl,hv,hb⟩
    have V1_3:=hU (KR.Own.sl szStr hv)
    clear hv
    dsimp only
    have V4_3:=hU (V4_2.out.below hb)
    clear V4_2
    have HR_3:=nB hb HR_2
    have HB_3:=hU (HB_2.out.trans (hb.mono HB_2.out.size))
    clear hb HR_2 HB_2
    refine nx hK trivial fun hS=> ?_
    clear hK K
    (try simp only [acts])
    refine ro 3 fun K hK=> ?_
    refine want rfl ?_
    go_simp
    refine (cloneChanR _ outs _ (HO.out _ HB_3.out) (by omega)).mono ?_
    rintro er W4 ⟨v2,rfl,hv,hb⟩
    have V2_4:=hU (KR.Own.sl szChan hv)
    clear hv
    dsimp only
    have V4_4:=hU (V4_3.out.below hb)
    clear V4_3
    have V1_4:=hU (V1_3.out.below hb)
    clear V1_3
    have HR_4:=nB hb HR_3
    have HB_4:=hU (HB_3.out.trans (hb.mono HB_3.out.size))
    clear hb HR_3 HB_3
    refine nx hK trivial fun hS=> ?_
    clear hK K
    (try simp only [acts])
    refine ro 5 fun K hK=> ?_
    refine want rfl ?_
    go_simp
    refine (cloneChanR _ ins_ _ (HN.out _ HB_4.out) (by omega)).mono ?_
    rintro er W5 ⟨v3,rfl,hv,hb⟩
    have V3_5:=hU (KR.Own.sl szChan hv)
    clear hv
    dsimp only
    have V4_5:=hU (V4_4.out.below hb)
    clear V4_4
    have V1_5:=hU (V1_4.out.below hb)
    clear V1_4
    have V2_5:=hU (V2_4.out.below hb)
    clear V2_4
    have HR_5:=nB hb HR_4
    have HB_5:=hU (HB_4.out.trans (hb.mono HB_4.out.size))
    clear hb HR_4 HB_4
    refine nx hK trivial fun hS=> ?_
    clear hK K
    (try simp only [acts])
    exact hj v1 v2 v3 v4 W5 ⟨V1_5,V2_5,V3_5,V4_5,HR_5,HB_5⟩
 rintro v1 v2 v3 v4 W5 ⟨V1,V2,V3,V4,HR_5,HB_5⟩
 have hS:(fun W:World=> True) W5:=trivial
 obtain ⟨a1,c1,rfl,_,_⟩:=V1.out.shape
 obtain ⟨a2,c2,rfl,_,_⟩:=V2.out.shape
 obtain ⟨a3,c3,rfl,_,_⟩:=V3.out.shape
 obtain ⟨a4,c4,rfl,_,_⟩:=V4.out.shape
 replace V4:=hU (by have:=V4.out;rwa [List.length_replicate] at this)
 refine tp 10 ?_;try simp only [acts]
 refine tp 11 ?_;try simp only [acts]
 refine ro 12 fun K hK=> ?_
 go_simp
 obtain ⟨b,hab,hb1⟩:∃ b,W5.heap.size=b∧w.heap.size<b:=⟨_,rfl,by have:=hlt HR_5.out;exact this⟩
 obtain ⟨W6,hWn,hba,hK6⟩:=nb1 (.cells #[.slice none 0 0,.slice none 0 0,.int .i64 0,.slice none 0 0,.slice none 0 0,.int .i64 0,.slice none 0 0,.int .u64 now,(.slice a1 images.length c1),(.slice a2 outs.length c2),(.slice a3 ins_.length c3),(.slice a4 ins_.length c4),.string ⟨#[]⟩,.slice none 0 0,.slice none 0 0,.int .i64 0,.int .i64 0] 204) hab
 rw [hWn]
 clear hWn
 try rw [hab]
 have HK_6:Hid (W6.heap[b]? =some (.cells (kcells (⟨.slice none 0 0,.slice none 0 0,.slice none 0 0,.slice none 0 0,.slice none 0 0,(.slice a1 images.length c1),(.slice a2 outs.length c2),(.slice a3 ins_.length c3),(.slice a4 ins_.length c4),.slice none 0 0,.slice none 0 0⟩:Lay) ({p:=[],t:=⟨[],0⟩,s:=[],pipes:=[],hs:=0,h:=[],now:=now,images:=images,outs:=outs,ins_:=ins_,box:=List.replicate ins_.length ⟨[],0⟩,cons:=⟨#[]⟩,trace:=[],sent:=[],want:=0,gone:=0}:Kern)) 204 (0,0))):=hU hK6.out
 have HR_6:=nB hba HR_5
 have HL_6:Hid (LayAt W6 (⟨.slice none 0 0,.slice none 0 0,.slice none 0 0,.slice none 0 0,.slice none 0 0,(.slice a1 images.length c1),(.slice a2 outs.length c2),(.slice a3 ins_.length c3),(.slice a4 ins_.length c4),.slice none 0 0,.slice none 0 0⟩:Lay) (List.replicate ins_.length zbox) ({p:=[],t:=⟨[],0⟩,s:=[],pipes:=[],hs:=0,h:=[],now:=now,images:=images,outs:=outs,ins_:=ins_,box:=List.replicate ins_.length ⟨[],0⟩,cons:=⟨#[]⟩,trace:=[],sent:=[],want:=0,gone:=0}:Kern)):=hU ⟨Sl.nil,Sl.nil,Sl.nil,Sl.nil,Sl.nil,V1.out.below hba,V2.out.below hba,V3.out.below hba,V4.out.below hba,by rw [List.map_replicate];rfl,fun x hx=> by rw [List.eq_of_mem_replicate hx];exact zbox_ok _,Sl.nil,Sl.nil⟩
 have HE_6:Hid (KR.Kept b w W6):=hU (Kept.of (HB_5.out.trans (hba.mono HB_5.out.size)))
 have hz6:=HE_6.out.size
 clear hba hK6 HR_5 HB_5 V1 V2 V3 V4 hab
 refine nx hK trivial fun hS=> ?_
 clear hK K
 (try simp only [acts])
 refine tp 13 ?_;try simp only [acts]
 obtain ⟨y6,hy6⟩:∃ y6,(⟨.slice none 0 0,.slice none 0 0,.slice none 0 0,.slice none 0 0,.slice none 0 0,(.slice a1 images.length c1),(.slice a2 outs.length c2),(.slice a3 ins_.length c3),(.slice a4 ins_.length c4),.slice none 0 0,.slice none 0 0⟩:Lay)=y6:=⟨_,rfl⟩
 obtain ⟨k6,hk6⟩:∃ k6,({p:=[],t:=⟨[],0⟩,s:=[],pipes:=[],hs:=0,h:=[],now:=now,images:=images,outs:=outs,ins_:=ins_,box:=List.replicate ins_.length ⟨[],0⟩,cons:=⟨#[]⟩,trace:=[],sent:=[],want:=0,gone:=0}:Kern)=k6:=⟨_,rfl⟩
 obtain ⟨bs6,hb6⟩:∃ bs6,(List.replicate ins_.length zbox)=bs6:=⟨_,rfl⟩
 rw [hy6,hk6] at HK_6
 rw [hy6,hk6,hb6] at HL_6
 clear hy6 hb6
 refine doneL (by kernel_rfl) (NoPanic.normal ?_) _
 clear hS
 repeat' (first|go_values|go_skip|go_guarded|(with_reducible refine wg ?_)|go_step|go_upon)
 refine (HNew mem _).mono ?_
 rintro er W7 ⟨rfl,hb⟩
 have HK_7:=nB hb HK_6
 have HR_7:=nB hb HR_6
 have HE_7:=nE hb HE_6
 have HL_7:=nL hb HL_6
 clear HK_6 HR_6 HE_6 HL_6
 clear hb
 dsimp only
 repeat' (first
  |(refine wpList_store (t:=65) (v:=.agg #[.int .i64 (if mem<0 then 0 else mem),.slice none 0 0]) (off:=5) (new:=kcells {y6 with h:=.slice none 0 0} ({k6 with hs:=(if mem<0 then 0 else mem)}:Kern)) rfl rfl rfl rfl aggHeap.size HK_7.out rfl (show 5 + 2≤17 by decide) (by intro u hu;simp [Value.cells] at hu;rcases hu with rfl|rfl <;> rfl) rfl ?_;intro W8 hp
    have HL_8:Hid (LayAt W8 {y6 with h:=.slice none 0 0} bs6 ({k6 with hs:=(if mem<0 then 0 else mem)}:Kern)):=hU ((HL_7.out.setHs (if mem<0 then 0 else mem) (v:=.slice none 0 0) (by rw [← hk6];exact Sl.nil)).put HK_7.out noWork hp)
    have HE_8:=pK hp HE_7
    have HK_8:Hid (W8.heap[b]? =some (.cells (kcells {y6 with h:=.slice none 0 0} ({k6 with hs:=(if mem<0 then 0 else mem)}:Kern)) 204 (0,0))):=pA hp
    have HR_8:=pT hp HK_7 HR_7
    clear hp
    clear HK_7 HR_7 HE_7 HL_7)
  |go_values|go_skip|go_guarded|(with_reducible refine wg ?_)|go_step|go_upon)
 obtain ⟨k8,hk8⟩:∃ k8,({k6 with hs:=(if mem<0 then 0 else mem)}:Kern)=k8:=⟨_,rfl⟩
 have hk8p:k8.p=[]∧k8.t.l=[]∧k8.pipes=[]∧k8.h=[]∧k8.images=images∧k8.hs=(if mem<0 then 0 else mem):=by rw [← hk8,← hk6];exact ⟨rfl,rfl,rfl,rfl,rfl,rfl⟩
 have hboot:boot mem images outs ins_ now=if (if imageE k8 0=0 then freshE k8 else imageE k8 0)=0 then (if imageE k8 0=0 then fresh k8 {Proc.zero with mem:=imageM k8 0} else k8) else {(if imageE k8 0=0 then fresh k8 {Proc.zero with mem:=imageM k8 0} else k8) with gone:=1}:=by rw [← hk8,← hk6];rfl
 rw [hk8] at HK_8 HL_8
 have HBO:=hU hboot
 clear hk8 hk6 hboot
 repeat' (first|go_values|go_skip|go_guarded|(with_reducible refine wg ?_)|go_step|go_upon)
 refine (WImage b k8 0 _ ⟨_,_,HK_8.out,HL_8.out⟩ (by decide) (by decide) (by rw [hk8p.2.2.2.2.1];omega)).mono ?_
 rintro er W9 ⟨rfl,hb⟩
 have HK_9:=nB hb HK_8
 have HR_9:=nB hb HR_8
 have HE_9:=nE hb HE_8
 have HL_9:=nL hb HL_8
 clear HK_8 HR_8 HE_8 HL_8
 clear hb
 dsimp only
 obtain ⟨im,him⟩:∃ im,imageM k8 0=im:=⟨_,rfl⟩
 obtain ⟨ie,hie⟩:∃ ie,imageE k8 0=ie:=⟨_,rfl⟩
 rw [him,hie] at HBO ⊢
 clear him hie
 by_cases hi0:ie=0
 · subst hi0
   repeat' (first|go_values|go_skip|go_guarded|(with_reducible refine wg ?_)|go_step|go_upon)
   refine (WFresh b k8 ({Proc.zero with mem:=im}:Proc) _ ⟨_,_,HK_9.out,HL_9.out⟩ (by rw [hk8p.1];decide) (by rw [hk8p.2.1];decide) (by rw [hk8p.2.2.1];decide) (by rw [hk8p.2.2.1];intro q hq;cases hq) (by rw [hk8p.2.2.2.1];decide) (by rw [hk8p.2.2.2.2.2];split <;> omega) (by rw [hk8p.2.2.2.2.2];split <;> omega) (by rw [hk8p.1];intro q hq;cases hq)).mono ?_
   rintro er W10 ⟨hret,⟨y10,bs10,hkk,hll⟩,hke⟩
   have HR_10:=mB hke HR_9
   have HK_10:=hU hkk
   have HE_10:=mE hke HE_9
   have HL_10:=hU hll
   clear hkk hll hke
   clear HK_9 HR_9 HE_9 HL_9
   subst hret
   dsimp only
   obtain ⟨fe,hfe⟩:∃ fe,freshE k8=fe:=⟨_,rfl⟩
   obtain ⟨fv,hfv⟩:∃ fv,freshV k8=fv:=⟨_,rfl⟩
   rw [hfe] at HBO ⊢
   rw [hfv]
   clear hfe hfv
   by_cases hf0:fe=0
   · subst hf0
     have hbo0:boot mem images outs ins_ now=(fresh k8 {Proc.zero with mem:=im}):=by rw [HBO.out,if_pos rfl,if_pos rfl,if_pos rfl]
     have hbo:=hU hbo0
     clear HBO hbo0
     repeat' (first
      |(refine wpList_load (t:=70) (v:=.agg (kcells y10 (fresh k8 {Proc.zero with mem:=im}))) rfl rfl rfl (run_load_whole aggKern HK_10.out rfl) ?_)
      |(refine wpList_store (t:=70) (v:=.agg (kcells y10 (fresh k8 {Proc.zero with mem:=im}))) (off:=0) (new:=(kcells y10 (fresh k8 {Proc.zero with mem:=im}))) rfl rfl rfl rfl aggKern.size HR_10.out rfl (show 0 + 17≤17 by decide) (onesK HL_10.out) rfl ?_;intro W11 hp
        have HE_11:=pE hp HE_10
        have HL_11:=pL hp HR_10 HL_10
        have HR_11:=pA hp
        have HK_11:=pT hp HR_10 HK_10
        clear hp
        clear HK_10 HR_10 HE_10 HL_10)
      |go_values|go_skip|go_guarded|(with_reducible refine wg ?_)|go_step|go_upon)
     (try simp only [Exit.inBlock,Exit.then]);refine bodyPost_ret (res_cell Tryz.results61 aggKern rfl HR_11.out rfl) rfl ?_
     rw [hbo.out]
     exact ⟨_,rfl,⟨_,_,rfl,HL_11.out⟩,Kept.low HE_11.out (by omega)⟩
   · have hfn:(fe !=0)=true:=by simpa using hf0
     have hbo0:boot mem images outs ins_ now={(fresh k8 {Proc.zero with mem:=im}) with gone:=1}:=by rw [HBO.out,if_pos rfl,if_neg hf0,if_pos rfl]
     have hbo:=hU hbo0
     clear HBO hbo0
     repeat' (first
      |(refine wpList_store1 (t:=3) (v:=.int .i64 1) (off:=16) (new:=kcells y10 ({(fresh k8 {Proc.zero with mem:=im}) with gone:=1}:Kern)) rfl rfl rfl rfl oneInt HK_10.out rfl rfl (show 16 + 1≤17 by decide) rfl ?_;intro W11 hp
        have HL_11:Hid (LayAt W11 y10 bs10 ({(fresh k8 {Proc.zero with mem:=im}) with gone:=1}:Kern)):=hU ((HL_10.out.setGone 1).put HK_10.out noWork hp)
        have HE_11:=pK hp HE_10
        have HK_11:Hid (W11.heap[b]? =some (.cells (kcells y10 ({(fresh k8 {Proc.zero with mem:=im}) with gone:=1}:Kern)) 204 (0,0))):=pA hp
        have HR_11:=pT hp HK_10 HR_10
        clear hp
        clear HK_10 HR_10 HE_10 HL_10)
      |(refine wpList_load (t:=70) (v:=.agg (kcells y10 ({(fresh k8 {Proc.zero with mem:=im}) with gone:=1}:Kern))) rfl rfl rfl (run_load_whole aggKern HK_11.out rfl) ?_)
      |(refine wpList_store (t:=70) (v:=.agg (kcells y10 ({(fresh k8 {Proc.zero with mem:=im}) with gone:=1}:Kern))) (off:=0) (new:=(kcells y10 ({(fresh k8 {Proc.zero with mem:=im}) with gone:=1}:Kern))) rfl rfl rfl rfl aggKern.size HR_11.out rfl (show 0 + 17≤17 by decide) (onesK HL_11.out) rfl ?_;intro W12 hp
        have HE_12:=pE hp HE_11
        have HL_12:=pL hp HR_11 HL_11
        have HR_12:=pA hp
        have HK_12:=pT hp HR_11 HK_11
        clear hp
        clear HK_11 HR_11 HE_11 HL_11)
      |go_values|go_skip|go_guarded|(with_reducible refine wg ?_)|go_step|go_upon)
     (try simp only [Exit.inBlock,Exit.then]);refine bodyPost_ret (res_cell Tryz.results61 aggKern rfl HR_12.out rfl) rfl ?_
     rw [hbo.out]
     exact ⟨_,rfl,⟨_,_,rfl,HL_12.out⟩,Kept.low HE_12.out (by omega)⟩
 · have hin:(ie==0)=false:=by simpa using hi0
   have hin2:(ie !=0)=true:=by simpa using hi0
   have hbo0:boot mem images outs ins_ now={k8 with gone:=1}:=by rw [HBO.out,if_neg hi0,if_neg hi0,if_neg hi0]
   have hbo:=hU hbo0
   clear HBO hbo0
   repeat' (first
    |(refine wpList_store1 (t:=3) (v:=.int .i64 1) (off:=16) (new:=kcells {y6 with h:=.slice none 0 0} ({k8 with gone:=1}:Kern)) rfl rfl rfl rfl oneInt HK_9.out rfl rfl (show 16 + 1≤17 by decide) rfl ?_;intro W10 hp
      have HL_10:Hid (LayAt W10 {y6 with h:=.slice none 0 0} bs6 ({k8 with gone:=1}:Kern)):=hU ((HL_9.out.setGone 1).put HK_9.out noWork hp)
      have HE_10:=pK hp HE_9
      have HK_10:Hid (W10.heap[b]? =some (.cells (kcells {y6 with h:=.slice none 0 0} ({k8 with gone:=1}:Kern)) 204 (0,0))):=pA hp
      have HR_10:=pT hp HK_9 HR_9
      clear hp
      clear HK_9 HR_9 HE_9 HL_9)
    |(refine wpList_load (t:=70) (v:=.agg (kcells {y6 with h:=.slice none 0 0} ({k8 with gone:=1}:Kern))) rfl rfl rfl (run_load_whole aggKern HK_10.out rfl) ?_)
    |(refine wpList_store (t:=70) (v:=.agg (kcells {y6 with h:=.slice none 0 0} ({k8 with gone:=1}:Kern))) (off:=0) (new:=(kcells {y6 with h:=.slice none 0 0} ({k8 with gone:=1}:Kern))) rfl rfl rfl rfl aggKern.size HR_10.out rfl (show 0 + 17≤17 by decide) (onesK HL_10.out) rfl ?_;intro W11 hp
      have HE_11:=pE hp HE_10
      have HL_11:=pL hp HR_10 HL_10
      have HR_11:=pA hp
      have HK_11:=pT hp HR_10 HK_10
      clear hp
      clear HK_10 HR_10 HE_10 HL_10)
    |go_values|go_skip|go_guarded|(with_reducible refine wg ?_)|go_step|go_upon)
   (try simp only [Exit.inBlock,Exit.then]);refine bodyPost_ret (res_cell Tryz.results61 aggKern rfl HR_11.out rfl) rfl ?_
   rw [hbo.out]
   exact ⟨_,rfl,⟨_,_,rfl,HL_11.out⟩,Kept.low HE_11.out (by omega)⟩
end Kn
end Go.Proofs.YthgehdghihbiaaaGreatDoor
