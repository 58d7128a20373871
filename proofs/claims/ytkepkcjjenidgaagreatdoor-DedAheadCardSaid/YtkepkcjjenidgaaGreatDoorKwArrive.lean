/- kern.Arrive: a message is put into a box. Conditions: as many as Go can hold. -/
import Derived.Test.YtkepkcjjenidgaaGreatDoorGTop
import Derived.Test.YtkepkcjjenidgaaGreatDoorGWork
import Derived.Test.YtkepkcjjenidgaaGreatDoorGBox
import Derived.Test.YtkepkcjjenidgaaGreatDoorGPort
set_option linter.unusedVariables false
set_option maxRecDepth 100000
set_option maxHeartbeats 8000000
set_option linter.unusedSimpArgs false
namespace Go.Proofs.YtkepkcjjenidgaaGreatDoor
open Go.RowKit KR RegT3
namespace Kn
theorem SArriveA (v:Value) (k:Kern) (n:Int) (body:ByteArray) (at_:Int) (w:World) (hk:KernV w v k) (hbl:k.box.length≤1000000) (hil:k.ins_.length≤1000000) (hbd:∀ q ∈ k.box,q.l.length≤1000000∧ -4611686018427387904≤q.lost∧q.lost≤4611686018427387904) (hn:n<0):
 Calls Tryz.prog 50 #[v,.int .i64 n,.string body,.int .u64 at_] w (GivesK (arrive k n body at_) w):=by
 obtain ⟨y0,bs,rfl,hl⟩:=hk
 obtain ⟨b,hb2⟩:∃ b,w.heap.size=b:=⟨_,rfl⟩
 have hbn:bs.length=k.box.length:=by rw [← hl.bse,List.length_map]
 have hres:arrive k n body at_=k:=by rw [arrive,if_pos (.inl hn)]
 have hnb:decide (n<0)=true:=by simp [hn]
 rw [hres]
 clear hres
 have hbs1:bs.length≤1000000:=by omega
 clear hbn
 obtain ⟨ia,ic,hia,hic,_⟩:=hl.ins_.shape
 have HIA:=hU hia
 clear hia
 obtain ⟨ba,bc,hba,hbc,_⟩:=hl.bx.shape
 have HBA:=hU hba
 clear hba
 obtain ⟨W0,hW0,HK_0,HR_0,HE_0,HL_0,hz0,hzK,hzR⟩:=stA hl hb2
 have kI:W0.cell? ⟨b,10,none⟩=some (.slice ia k.ins_.length ic):=((hcell HK_0.out 10).trans (congrArg some HIA.out))
 have kB:W0.cell? ⟨b,11,none⟩=some (.slice ba bs.length bc):=((hcell HK_0.out 11).trans (congrArg some HBA.out))
 go_enter Tryz.func50,Tryz.ntmps50
 repeat' (first
  |(rw [hW0,hb2];clear hW0)
  |(refine wpList_load (t:=56) (v:=.agg (kcells y0 k)) rfl rfl rfl (run_load_whole aggKern HK_0.out rfl) ?_)
  |(refine wpList_store (t:=56) (v:=.agg (kcells y0 k)) (off:=0) (new:=(kcells y0 k)) rfl rfl rfl rfl aggKern.size HR_0.out rfl (show 0 + 17≤17 by decide) (onesK HL_0.out) rfl ?_;intro W1 hp
    have HE_1:=pE hp HE_0
    have HL_1:=pL hp HR_0 HL_0
    have HR_1:=pA hp
    have HK_1:=pO hp HK_0
    clear hp
    clear HK_0 HR_0 HE_0 HL_0)
  |go_values|go_skip|go_guarded|(with_reducible refine wg ?_)|go_step|go_upon)
 (try simp only [Exit.inBlock,Exit.then]);refine bodyPost_ret (res_cell Tryz.results50 aggKern rfl HR_1.out rfl) rfl ?_
 exact ⟨_,rfl,⟨_,_,rfl,HL_1.out⟩,Kept.low HE_1.out (by omega)⟩
theorem SArriveB (v:Value) (k:Kern) (n:Int) (body:ByteArray) (at_:Int) (w:World) (hk:KernV w v k) (hbl:k.box.length≤1000000) (hil:k.ins_.length≤1000000) (hbd:∀ q ∈ k.box,q.l.length≤1000000∧ -4611686018427387904≤q.lost∧q.lost≤4611686018427387904) (j:Nat) (hj:n=(j:Int)) (h1:k.ins_.length≤j):
 Calls Tryz.prog 50 #[v,.int .i64 n,.string body,.int .u64 at_] w (GivesK (arrive k n body at_) w):=by
 obtain ⟨y0,bs,rfl,hl⟩:=hk
 obtain ⟨b,hb2⟩:∃ b,w.heap.size=b:=⟨_,rfl⟩
 have hbn:bs.length=k.box.length:=by rw [← hl.bse,List.length_map]
 subst hj
 have hres:arrive k (j:Int) body at_=k:=by rw [arrive,if_pos (.inr (.inl (by omega)))]
 rw [hres]
 clear hres
 have hj0:¬ ((j:Int)<0):=by omega
 have hjd:decide ((j:Int)<0)=false:=by simp
 have hL1:decide ((k.ins_.length:Int)≤(j:Int))=true:=by simp;omega
 have hL1n:decide (k.ins_.length≤j)=true:=by simp;omega
 have hbs1:bs.length≤1000000:=by omega
 clear hbn
 obtain ⟨ia,ic,hia,hic,_⟩:=hl.ins_.shape
 have HIA:=hU hia
 clear hia
 obtain ⟨ba,bc,hba,hbc,_⟩:=hl.bx.shape
 have HBA:=hU hba
 clear hba
 obtain ⟨W0,hW0,HK_0,HR_0,HE_0,HL_0,hz0,hzK,hzR⟩:=stA hl hb2
 have kI:W0.cell? ⟨b,10,none⟩=some (.slice ia k.ins_.length ic):=((hcell HK_0.out 10).trans (congrArg some HIA.out))
 have kB:W0.cell? ⟨b,11,none⟩=some (.slice ba bs.length bc):=((hcell HK_0.out 11).trans (congrArg some HBA.out))
 go_enter Tryz.func50,Tryz.ntmps50
 repeat' (first
  |(rw [hW0,hb2];clear hW0)
  |(refine wpList_load (t:=56) (v:=.agg (kcells y0 k)) rfl rfl rfl (run_load_whole aggKern HK_0.out rfl) ?_)
  |(refine wpList_store (t:=56) (v:=.agg (kcells y0 k)) (off:=0) (new:=(kcells y0 k)) rfl rfl rfl rfl aggKern.size HR_0.out rfl (show 0 + 17≤17 by decide) (onesK HL_0.out) rfl ?_;intro W1 hp
    have HE_1:=pE hp HE_0
    have HL_1:=pL hp HR_0 HL_0
    have HR_1:=pA hp
    have HK_1:=pO hp HK_0
    clear hp
    clear HK_0 HR_0 HE_0 HL_0)
  |go_values|go_skip|go_guarded|(with_reducible refine wg ?_)|go_step|go_upon)
 (try simp only [Exit.inBlock,Exit.then]);refine bodyPost_ret (res_cell Tryz.results50 aggKern rfl HR_1.out rfl) rfl ?_
 exact ⟨_,rfl,⟨_,_,rfl,HL_1.out⟩,Kept.low HE_1.out (by omega)⟩
theorem SArriveC (v:Value) (k:Kern) (n:Int) (body:ByteArray) (at_:Int) (w:World) (hk:KernV w v k) (hbl:k.box.length≤1000000) (hil:k.ins_.length≤1000000) (hbd:∀ q ∈ k.box,q.l.length≤1000000∧ -4611686018427387904≤q.lost∧q.lost≤4611686018427387904) (j:Nat) (hj:n=(j:Int)) (h1:¬ k.ins_.length≤j) (h2:k.box.length≤j):
 Calls Tryz.prog 50 #[v,.int .i64 n,.string body,.int .u64 at_] w (GivesK (arrive k n body at_) w):=by
 obtain ⟨y0,bs,rfl,hl⟩:=hk
 obtain ⟨b,hb2⟩:∃ b,w.heap.size=b:=⟨_,rfl⟩
 have hbn:bs.length=k.box.length:=by rw [← hl.bse,List.length_map]
 subst hj
 have hres:arrive k (j:Int) body at_=k:=by rw [arrive,if_pos (.inr (.inr (by omega)))]
 rw [hres]
 clear hres
 have hj0:¬ ((j:Int)<0):=by omega
 have hjd:decide ((j:Int)<0)=false:=by simp
 have hL1:decide ((k.ins_.length:Int)≤(j:Int))=false:=by simp;omega
 have hL1n:decide (k.ins_.length≤j)=false:=by simp;omega
 have hL2:decide ((bs.length:Int)≤(j:Int))=true:=by simp;omega
 have hL2n:decide (bs.length≤j)=true:=by simp;omega
 have hbs1:bs.length≤1000000:=by omega
 clear hbn
 obtain ⟨ia,ic,hia,hic,_⟩:=hl.ins_.shape
 have HIA:=hU hia
 clear hia
 obtain ⟨ba,bc,hba,hbc,_⟩:=hl.bx.shape
 have HBA:=hU hba
 clear hba
 obtain ⟨W0,hW0,HK_0,HR_0,HE_0,HL_0,hz0,hzK,hzR⟩:=stA hl hb2
 have kI:W0.cell? ⟨b,10,none⟩=some (.slice ia k.ins_.length ic):=((hcell HK_0.out 10).trans (congrArg some HIA.out))
 have kB:W0.cell? ⟨b,11,none⟩=some (.slice ba bs.length bc):=((hcell HK_0.out 11).trans (congrArg some HBA.out))
 go_enter Tryz.func50,Tryz.ntmps50
 repeat' (first
  |(rw [hW0,hb2];clear hW0)
  |(refine wpList_load (t:=56) (v:=.agg (kcells y0 k)) rfl rfl rfl (run_load_whole aggKern HK_0.out rfl) ?_)
  |(refine wpList_store (t:=56) (v:=.agg (kcells y0 k)) (off:=0) (new:=(kcells y0 k)) rfl rfl rfl rfl aggKern.size HR_0.out rfl (show 0 + 17≤17 by decide) (onesK HL_0.out) rfl ?_;intro W1 hp
    have HE_1:=pE hp HE_0
    have HL_1:=pL hp HR_0 HL_0
    have HR_1:=pA hp
    have HK_1:=pO hp HK_0
    clear hp
    clear HK_0 HR_0 HE_0 HL_0)
  |go_values|go_skip|go_guarded|(with_reducible refine wg ?_)|go_step|go_upon)
 (try simp only [Exit.inBlock,Exit.then]);refine bodyPost_ret (res_cell Tryz.results50 aggKern rfl HR_1.out rfl) rfl ?_
 exact ⟨_,rfl,⟨_,_,rfl,HL_1.out⟩,Kept.low HE_1.out (by omega)⟩
theorem SArriveD (v:Value) (k:Kern) (n:Int) (body:ByteArray) (at_:Int) (w:World) (hk:KernV w v k) (hbl:k.box.length≤1000000) (hil:k.ins_.length≤1000000) (hbd:∀ q ∈ k.box,q.l.length≤1000000∧ -4611686018427387904≤q.lost∧q.lost≤4611686018427387904) (j:Nat) (hj:n=(j:Int)) (h1:¬ k.ins_.length≤j) (h2:¬ k.box.length≤j):
 Calls Tryz.prog 50 #[v,.int .i64 n,.string body,.int .u64 at_] w (GivesK (arrive k n body at_) w):=by
 obtain ⟨y0,bs,rfl,hl⟩:=hk
 obtain ⟨b,hb2⟩:∃ b,w.heap.size=b:=⟨_,rfl⟩
 have hbn:bs.length=k.box.length:=by rw [← hl.bse,List.length_map]
 subst hj
 have hj0:¬ ((j:Int)<0):=by omega
 have hjd:decide ((j:Int)<0)=false:=by simp
 have hL1:decide ((k.ins_.length:Int)≤(j:Int))=false:=by simp;omega
 have hL1n:decide (k.ins_.length≤j)=false:=by simp;omega
 have hL2:decide ((bs.length:Int)≤(j:Int))=false:=by simp;omega
 have hL2n:decide (bs.length≤j)=false:=by simp;omega
 have hi1:¬ k.ins_.length≤j:=h1
 have hi2:¬ bs.length≤j:=by omega
 obtain ⟨c,hc⟩:∃ c,k.ins_[j]? =some c:=⟨_,List.getElem?_eq_getElem (by omega)⟩
 obtain ⟨z,hz⟩:∃ z,bs[j]? =some z:=⟨_,List.getElem?_eq_getElem (by omega)⟩
 have hzb:k.box[j]? =some z.b:=by rw [← hl.bse,List.getElem?_map,hz];rfl
 have hzm:z ∈ bs:=List.mem_of_getElem? hz
 have hzd:=hbd z.b (List.mem_of_getElem? hzb)
 have hres:arrive k (j:Int) body at_={k with box:=k.box.set j (bsend c z.b at_ body)}:=by
  rw [arrive,if_neg (by omega)]
  simp only [Int.toNat_natCast]
  rw [hc,hzb]
 rw [hres]
 clear hres
 have hbs1:bs.length≤1000000:=by omega
 clear hbn
 obtain ⟨ia,ic,hia,hic,_⟩:=hl.ins_.shape
 have HIA:=hU hia
 clear hia
 obtain ⟨ba,bc,hba,hbc,_⟩:=hl.bx.shape
 have HBA:=hU hba
 clear hba
 obtain ⟨W0,hW0,HK_0,HR_0,HE_0,HL_0,hz0,hzK,hzR⟩:=stA hl hb2
 obtain ⟨pa,pc,hpa,hpc0,hpc1,h0|⟨gi,oi,ci,ha,hgi,hii⟩⟩:=HL_0.out.ins_
 · rw [h0] at hi1;exact absurd (Nat.zero_le _) hi1
 rw [HIA.out] at hpa
 injection hpa with hpa hpn hpc
 clear hpn
 subst hpa hpc
 subst ha
 have HCI:=hU (hii _ _ hc)
 clear hii hc hpc0 hpc1
 obtain ⟨pa,pc,hpa,hpc0,hpc1,h0|⟨gx,ox,cx,ha,hgx,hxx⟩⟩:=HL_0.out.bx
 · rw [h0] at hi2;exact absurd (Nat.zero_le _) hi2
 rw [HBA.out] at hpa
 injection hpa with hpa hpn hpc
 clear hpn
 subst hpa hpc
 subst ha
 have HCX:=hU (hxx _ _ hz)
 clear hxx hz hpc0 hpc1
 have kI:W0.cell? ⟨b,10,none⟩=some (.slice (some ⟨gi,oi,none⟩) k.ins_.length ic):=((hcell HK_0.out 10).trans (congrArg some HIA.out))
 have kB:W0.cell? ⟨b,11,none⟩=some (.slice (some ⟨gx,ox,none⟩) bs.length bc):=((hcell HK_0.out 11).trans (congrArg some HBA.out))
 go_enter Tryz.func50,Tryz.ntmps50
 repeat' (first
  |(rw [hW0,hb2];clear hW0)
  |go_values|go_skip|go_guarded|(with_reducible refine wg ?_)|go_step|go_upon)
 clear kI kB
 have HI_0:=hU hgi
 clear hgi
 have HQ_0:=hU hgx
 clear hgx
 have hjI:(j:Int)<(k.ins_.length:Int):=by omega
 have hjB:(j:Int)<(bs.length:Int):=by omega
 have hj1:(0:Int)≤(j:Int):=by omega
 clear hj0 hjd hL1 hL2 hL1n hL2n
 refine wp_region_noPanic ?_
 refine go0 (S:=fun W=> (W.cell? ⟨b,10,none⟩=some (.slice (some ⟨gi,oi,none⟩) k.ins_.length ic))∧(W.cell? ⟨b,11,none⟩=some (.slice (some ⟨gx,ox,none⟩) bs.length bc))∧(W.heap[gi]? =some (.cells ci 111 (0,0)))∧(W.heap[gx]? =some (.cells cx 78 (0,0)))) [17] (⟨((hcell HK_0.out 10).trans (congrArg some HIA.out)),((hcell HK_0.out 11).trans (congrArg some HBA.out)),HI_0.out,HQ_0.out⟩) fun hS=> ?_
 obtain ⟨W1,hWd⟩:=exW W0.drew
 have HK_1:=dB hWd HK_0
 have HR_1:=dB hWd HR_0
 have HI_1:=dB hWd HI_0
 have HQ_1:=dB hWd HQ_0
 have HE_1:=dE hWd HE_0
 have HL_1:=dL hWd HL_0
 rw [hWd] at hS ⊢
 clear hWd
 clear HK_0 HR_0 HI_0 HQ_0 HE_0 HL_0
 refine tp 0 ?_;try simp only [acts]
 refine tl 1 ?_;try simp only [acts]
 refine tp 2 ?_;try simp only [acts]
 refine tp 3 ?_;try simp only [acts]
 refine tv 4 (.agg c.cells) (fun W hSW=> run_val_load rfl rfl (run_load_arr (o:=oi + j * 5) aggChan rfl (fun _ u hu=> (hcell hSW.2.2.1 _).trans (HCI.out _ u hu)))) ?_
 (try simp only [acts])
 refine tp 5 ?_;try simp only [acts]
 refine tl 6 ?_;try simp only [acts]
 refine tp 7 ?_;try simp only [acts]
 refine tp 8 ?_;try simp only [acts]
 refine tv 9 (.agg (boxCells z)) (fun W hSW=> run_val_load rfl rfl (run_load_arr (o:=ox + j * 2) aggBox rfl (fun _ u hu=> (hcell hSW.2.2.2 _).trans (HCX.out _ u hu)))) ?_
 (try simp only [acts])
 refine tp 10 ?_;try simp only [acts]
 refine tp 11 ?_;try simp only [acts]
 clear hS
 revert HK_1 HR_1 HI_1 HQ_1 HE_1 HL_1
 apply KR.join4 (F:=fun (abB:Nat) (yb:BoxV) (er2:Int) (W3:World)=> Hid (W3.heap[abB]? =some (.cells #[.slice none 0 0,.int .i64 0] 78 (0,0)))∧Hid (W3.heap[gi]? =some (.cells ci 111 (0,0)))∧Hid (W3.heap[b]? =some (.cells (kcells y0 k) 56 (0,0)))∧Hid (W3.heap[gx]? =some (.cells cx 78 (0,0)))∧Hid (W3.heap[(b + 1)]? =some (.cells #[.slice none 0 0,.slice none 0 0,.int .i64 0,.slice none 0 0,.slice none 0 0,.int .i64 0,.slice none 0 0,.int .u64 0,.slice none 0 0,.slice none 0 0,.slice none 0 0,.slice none 0 0,.string ⟨#[]⟩,.slice none 0 0,.slice none 0 0,.int .i64 0,.int .i64 0] 56 (0,0)))∧Hid (KR.Kept b w W3)∧Hid (LayAt W3 y0 bs k)∧Hid (Sl 80 2 Msg.cells W3 (.slice yb.a yb.b.l.length yb.c) yb.b.l)∧(w.heap.size≤abB)∧(b<abB)∧(b + 1<abB)∧(gx<abB)∧(OffRow y0.bx bs.length abB)∧(Hid (yb.b=bsend c z.b at_ body)))
 case h2=>
  intro hj HK_1 HR_1 HI_1 HQ_1 HE_1 HL_1
  refine twoL (i:=12) (j:=16) (by kernel_rfl) rfl rfl (fun K hK=> ?_) (fun K hK=> ?_)
  · skip
    refine want rfl ?_
    go_simp
    refine (PSend c z at_ body _ (HL_1.out.ok z hzm) hzd.1 hzd.2.1 hzd.2.2).mono ?_
    rintro er W2 ⟨yb,er2,rfl,hyb,hbo,hb⟩
    have HK_2:=nB hb HK_1
    have HR_2:=nB hb HR_1
    have HI_2:=nB hb HI_1
    have HQ_2:=nB hb HQ_1
    have HE_2:=nE hb HE_1
    have HL_2:=nL hb HL_1
    clear HK_1 HR_1 HI_1 HQ_1 HE_1 HL_1
    have BO_2:=hU hbo
    clear hb
    dsimp only
    try clear hS
    refine nx hK (⟨((hcell HK_2.out 10).trans (congrArg some HIA.out)),((hcell HK_2.out 11).trans (congrArg some HBA.out)),HI_2.out,HQ_2.out⟩) fun hS=> ?_
    clear hK K
    (try simp only [acts])
    refine tp 13 ?_;try simp only [acts]
    refine tp 14 ?_;try simp only [acts]
    refine tp 15 ?_;try simp only [acts]
    have HYB:=hU hyb
    clear hyb hbo
    refine ro 16 fun K hK=> ?_
    obtain ⟨abB,hab,hab1B⟩:=nb0 HE_2
    have habKB:=nlt HK_2 hab
    have habRB:=nlt HR_2 hab
    have habIB:=nlt HI_2 hab
    have habQB:=nlt HQ_2 hab
    have hoffB:=HL_2.out.bx.offNew (Nat.le_of_eq hab)
    go_simp
    obtain ⟨W3,hWn,hba,HB_3⟩:=nb1 (.cells #[.slice none 0 0,.int .i64 0] 78) hab
    rw [hWn]
    clear hWn
    have HK_3:=nB hba HK_2
    have HR_3:=nB hba HR_2
    have HI_3:=nB hba HI_2
    have HQ_3:=nB hba HQ_2
    have HE_3:=nE hba HE_2
    have HL_3:=nL hba HL_2
    have BO_3:=hU (BO_2.out.below hba)
    clear HK_2 HR_2 HI_2 HQ_2 HE_2 HL_2 BO_2
    clear hba
    try rw [hab]
    clear hab
    try clear hS
    refine nx hK (⟨((hcell HK_3.out 10).trans (congrArg some HIA.out)),((hcell HK_3.out 11).trans (congrArg some HBA.out)),HI_3.out,HQ_3.out⟩) fun hS=> ?_
    clear hK K
    (try simp only [acts])
    exact hj abB yb er2 W3 ⟨HB_3,HI_3,HK_3,HQ_3,HR_3,HE_3,HL_3,BO_3,hab1B,habKB,habRB,habQB,hoffB,HYB⟩
  · skip
    obtain ⟨abB,hab,hab1B⟩:=nb0 HE_1
    have habKB:=nlt HK_1 hab
    have habRB:=nlt HR_1 hab
    have habIB:=nlt HI_1 hab
    have habQB:=nlt HQ_1 hab
    have hoffB:=HL_1.out.bx.offNew (Nat.le_of_eq hab)
    go_simp
    obtain ⟨W2,hWn,hba,HB_2⟩:=nb1 (.cells #[.slice none 0 0,.int .i64 0] 78) hab
    rw [hWn]
    clear hWn
    have HK_2:=nB hba HK_1
    have HR_2:=nB hba HR_1
    have HI_2:=nB hba HI_1
    have HQ_2:=nB hba HQ_1
    have HE_2:=nE hba HE_1
    have HL_2:=nL hba HL_1
    clear HK_1 HR_1 HI_1 HQ_1 HE_1 HL_1
    clear hba
    try rw [hab]
    clear hab
    try clear hS
    refine nx hK (⟨((hcell HK_2.out 10).trans (congrArg some HIA.out)),((hcell HK_2.out 11).trans (congrArg some HBA.out)),HI_2.out,HQ_2.out⟩) fun hS=> ?_
    clear hK K
    (try simp only [acts])
    refine ro 12 fun K hK=> ?_
    refine want rfl ?_
    go_simp
    refine (PSend c z at_ body _ (HL_2.out.ok z hzm) hzd.1 hzd.2.1 hzd.2.2).mono ?_
    rintro er W3 ⟨yb,er2,rfl,hyb,hbo,hb⟩
    have HK_3:=nB hb HK_2
    have HR_3:=nB hb HR_2
    have HI_3:=nB hb HI_2
    have HQ_3:=nB hb HQ_2
    have HB_3:=nB hb HB_2
    have HE_3:=nE hb HE_2
    have HL_3:=nL hb HL_2
    clear HK_2 HR_2 HI_2 HQ_2 HB_2 HE_2 HL_2
    have BO_3:=hU hbo
    clear hb
    dsimp only
    try clear hS
    refine nx hK (⟨((hcell HK_3.out 10).trans (congrArg some HIA.out)),((hcell HK_3.out 11).trans (congrArg some HBA.out)),HI_3.out,HQ_3.out⟩) fun hS=> ?_
    clear hK K
    (try simp only [acts])
    refine tp 13 ?_;try simp only [acts]
    refine tp 14 ?_;try simp only [acts]
    refine tp 15 ?_;try simp only [acts]
    have HYB:=hU hyb
    clear hyb hbo
    exact hj abB yb er2 W3 ⟨HB_3,HI_3,HK_3,HQ_3,HR_3,HE_3,HL_3,BO_3,hab1B,habKB,habRB,habQB,hoffB,HYB⟩
 rintro abB yb er2 W3 ⟨HB_3,HI_3,HK_3,HQ_3,HR_3,HE_3,HL_3,BO_3,hab1B,habKB,habRB,habQB,hoffB,HYB⟩
 have hS:(fun W:World=> (W.cell? ⟨b,10,none⟩=some (.slice (some ⟨gi,oi,none⟩) k.ins_.length ic))∧(W.cell? ⟨b,11,none⟩=some (.slice (some ⟨gx,ox,none⟩) bs.length bc))∧(W.heap[gi]? =some (.cells ci 111 (0,0)))∧(W.heap[gx]? =some (.cells cx 78 (0,0)))) W3:=⟨((hcell HK_3.out 10).trans (congrArg some HIA.out)),((hcell HK_3.out 11).trans (congrArg some HBA.out)),HI_3.out,HQ_3.out⟩
 refine ro 17 fun K hK=> ?_
 refine want rfl ?_
 refine wp_store (v:=.agg (boxCells yb)) (off:=0) (new:=(boxCells yb)) rfl rfl rfl aggBox.size HB_3.out rfl (show 0 + 2≤2 by decide) (onesBx yb) rfl ?_
 intro W4 hp
 have HE_4:=pE hp HE_3
 have HL_4:Hid (LayAt W4 y0 bs k):=hU (HL_3.out.putBox hoffB HB_3.out hp)
 have HB_4:=pA hp
 have HK_4:=pT hp HB_3 HK_3
 have HR_4:=pT hp HB_3 HR_3
 have HI_4:=pT hp HB_3 HI_3
 have HQ_4:=pO hp HQ_3
 have BO_4:=hU (BO_3.out.put HB_3.out hp (by decide))
 clear hp
 clear HK_3 HR_3 HI_3 HQ_3 HB_3 HE_3 HL_3 BO_3
 refine nt hK ?_
 clear hK K
 try clear hS
 (try simp only [acts])
 refine tp 18 ?_;try simp only [acts]
 refine doneL (by kernel_rfl) (NoPanic.normal ?_) _
 try clear hS
 clear HI_4
 clear HQ_4
 have kB4:W4.cell? ⟨b,11,none⟩=some y0.bx:=hcell HK_4.out 11
 repeat' (first
  |go_values|go_skip|go_guarded|(with_reducible refine wg ?_)|go_step|go_upon)
 have hG6:=hlt HB_4.out
 have hE6:=HE_4.out.size
 refine (cloneBox y0.bx bs _ HL_4.out.bx (by omega)).mono ?_
 rintro er W5 ⟨vc,rfl,ho,hb⟩
 have HK_5:=nB hb HK_4
 have HR_5:=nB hb HR_4
 have HB_5:=nB hb HB_4
 have HE_5:=nE hb HE_4
 have HL_5:=nL hb HL_4
 have BO_5:=hU (BO_4.out.below hb)
 clear HK_4 HR_4 HB_4 HE_4 HL_4 BO_4
 clear hb kB4
 have hne:bs ≠ []:=fun h=> by rw [h] at hi2;exact hi2 (Nat.zero_le _)
 obtain ⟨gc,cap,cur2,rfl,hB,hrow⟩:=Own.row ho hne
 clear ho hne
 dsimp only
 have hrc:=hrow.2
 have hcap:=hrc.1
 have hcsz:=hrc.2.2.1
 have HC_5:=hU hrow.1
 clear hrow
 have hcs:∀ W:World,W.heap[gc]? =some (.cells cur2 78 (0,0))→SlBx W (.slice (some ⟨gc,0,none⟩) bs.length cap) bs:=fun W h=> KR.Own.sl szBox (Row.own szBox (cap:=cap) (cur:=cur2) ⟨h,hrc⟩ (Nat.zero_le gc))
 repeat' (first
  |(refine wpList_store1 (t:=52) (v:=(.slice (some ⟨gc,0,none⟩) bs.length cap)) (off:=11) (new:=kcells {y0 with bx:=(.slice (some ⟨gc,0,none⟩) bs.length cap)} k) rfl rfl rfl rfl oneSBox HK_5.out (hcs _ HC_5.out).vcells (hcs _ HC_5.out).vone (show 11 + 1≤17 by decide) rfl ?_;intro W6 hp
    have HL_6:Hid (LayAt W6 {y0 with bx:=(.slice (some ⟨gc,0,none⟩) bs.length cap)} bs k):=hU ((HL_5.out.setBx0 (hcs _ HC_5.out)).put HK_5.out noKern hp)
    have HE_6:=pK hp HE_5
    have HK_6:Hid (W6.heap[b]? =some (.cells (kcells {y0 with bx:=(.slice (some ⟨gc,0,none⟩) bs.length cap)} k) 56 (0,0))):=pA hp
    have HR_6:=pO hp HR_5
    have HB_6:=pT hp HK_5 HB_5
    have HC_6:=pT hp HK_5 HC_5
    have BO_6:=hU (BO_5.out.put HK_5.out hp (by decide))
    clear hp
    clear HK_5 HR_5 HB_5 HC_5 HE_5 HL_5 BO_5
    have kB5:W6.cell? ⟨b,11,none⟩=some (.slice (some ⟨gc,0,none⟩) bs.length cap):=hcell HK_6.out 11)
  |(refine wpList_load (t:=78) (v:=.agg (boxCells yb)) rfl rfl rfl (run_load_whole aggBox HB_6.out rfl) ?_)
  |(refine wpList_store (t:=78) (v:=.agg (boxCells yb)) (off:=j * 2) (new:=(splice cur2 (j * 2) (boxCells yb))) rfl rfl rfl rfl aggBox.size HC_6.out rfl (by first|omega|(simp only [Value.cells,szBox];omega)|(rw [show (Value.agg (boxCells yb)).cells.size=2 from rfl];omega)) (onesBx yb) rfl ?_;intro W7 hp
    have HE_7:=pE hp HE_6
    have HL_7:Hid (LayAt W7 {y0 with bx:=(.slice (some ⟨gc,0,none⟩) bs.length cap)} (bs.set j yb) {k with box:=k.box.set j yb.b}):=hU (HL_6.out.putRow (boxRow_set HC_6.out hrc (by omega) hp) BO_6.out HC_6.out hp)
    have HC_7:=pA hp
    have HK_7:=pT hp HC_6 HK_6
    have HR_7:=pT hp HC_6 HR_6
    have HB_7:=pO hp HB_6
    have BO_7:=hU (BO_6.out.put HC_6.out hp (by decide))
    clear hp
    clear HK_6 HR_6 HB_6 HC_6 HE_6 HL_6 BO_6)
  |(refine wpList_load (t:=56) (v:=.agg (kcells {y0 with bx:=(.slice (some ⟨gc,0,none⟩) bs.length cap)} {k with box:=k.box.set j yb.b})) rfl rfl rfl (run_load_whole aggKern HK_7.out rfl) ?_)
  |(refine wpList_store (t:=56) (v:=.agg (kcells {y0 with bx:=(.slice (some ⟨gc,0,none⟩) bs.length cap)} {k with box:=k.box.set j yb.b})) (off:=0) (new:=(kcells {y0 with bx:=(.slice (some ⟨gc,0,none⟩) bs.length cap)} {k with box:=k.box.set j yb.b})) rfl rfl rfl rfl aggKern.size HR_7.out rfl (show 0 + 17≤17 by decide) (onesK HL_7.out) rfl ?_;intro W8 hp
    have HE_8:=pE hp HE_7
    have HL_8:=pL hp HR_7 HL_7
    have HR_8:=pA hp
    have HK_8:=pO hp HK_7
    have HB_8:=pT hp HR_7 HB_7
    have HC_8:=pT hp HR_7 HC_7
    have BO_8:=hU (BO_7.out.put HR_7.out hp (by decide))
    clear hp
    clear HK_7 HR_7 HB_7 HC_7 HE_7 HL_7 BO_7)
  |go_values|go_skip|go_guarded|(with_reducible refine wg ?_)|go_step|go_upon)
 clear BO_8
 (try simp only [Exit.inBlock,Exit.then]);refine bodyPost_ret (res_cell Tryz.results50 aggKern rfl HR_8.out rfl) rfl ?_
 rw [← HYB.out]
 exact ⟨_,rfl,⟨_,_,rfl,HL_8.out⟩,Kept.low HE_8.out (by omega)⟩
theorem SArrive (v:Value) (k:Kern) (n:Int) (body:ByteArray) (at_:Int) (w:World) (hk:KernV w v k) (hbl:k.box.length≤1000000) (hil:k.ins_.length≤1000000) (hbd:∀ q ∈ k.box,q.l.length≤1000000∧ -4611686018427387904≤q.lost∧q.lost≤4611686018427387904):
 Calls Tryz.prog 50 #[v,.int .i64 n,.string body,.int .u64 at_] w (GivesK (arrive k n body at_) w):=by
 by_cases hn:n<0
 · exact SArriveA v k n body at_ w hk hbl hil hbd hn
 have hj:n=(n.toNat:Int):=by omega
 by_cases h1:k.ins_.length≤n.toNat
 · exact SArriveB v k n body at_ w hk hbl hil hbd _ hj h1
 by_cases h2:k.box.length≤n.toNat
 · exact SArriveC v k n body at_ w hk hbl hil hbd _ hj h1 h2
 · exact SArriveD v k n body at_ w hk hbl hil hbd _ hj h1 h2
end Kn
end Go.Proofs.YtkepkcjjenidgaaGreatDoor
