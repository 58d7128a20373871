/- kern.recvs. Conditions: as many as Go can hold; words' numbers. -/
import Derived.Test.YtkepkcjjenidgaaGreatDoorGWork
import Derived.Test.YtkepkcjjenidgaaGreatDoorGSeg
import Derived.Test.YtkepkcjjenidgaaGreatDoorGBox
import Derived.Test.YtkepkcjjenidgaaGreatDoorGTab
set_option linter.unusedVariables false
set_option maxRecDepth 100000
set_option maxHeartbeats 8000000
set_option linter.unusedSimpArgs false
namespace Go.Proofs.YtkepkcjjenidgaaGreatDoor
open Go.RowKit KR RegT3
namespace Kn
theorem WRecvs (b:Nat) (k:Kern) (p:Proc) (x:Call) (w:World) (hk:WorkAt w b k) (hn:k.p.length≤1000000) (hbl2:k.box.length≤1000000) (hbd:∀ q ∈ k.box,∀ m ∈ q.l,m.body.size≤140737488355328) (hm:p.mem.size≤1000000) (ha0:0≤x.a) (ha1:x.a<4294967296) (hb0:0≤x.b) (hb1:x.b<4294967296) (hc0:0≤x.c) (hc1:x.c<4294967296):
 Calls Tryz.prog 193 #[.pointer (some ⟨b,0,none⟩),.agg p.cells,.agg x.cells] w (GivesW b (.tuple #[.int .u32 (recvs k p x).v,.int .i64 (recvs k p x).e]) (recvs k p x).k w):=by
 obtain ⟨y,bs,hk0,hl⟩:=hk
 have hbl:=hlt hk0
 obtain ⟨xn,xa,xb,xc⟩:=x
 dsimp only at ha0 ha1 hb0 hb1 hc0 hc1
 obtain ⟨j,rfl⟩:∃ j:Nat,xa=(j:Int):=⟨xa.toNat,by omega⟩
 have hbn:bs.length=k.box.length:=by rw [← hl.bse,List.length_map]
 have hbs1:bs.length≤1000000:=by omega
 have HBN:=hU hbn
 clear hbn
 obtain ⟨ia,ic,hia,hic,_⟩:=hl.ins_.shape
 have HIA:=hU hia
 clear hia
 obtain ⟨ba,bc,hba,hbc,_⟩:=hl.bx.shape
 have HBA:=hU hba
 clear hba
 obtain ⟨W0,hW0,HK_0,HP_0,HX_0,HE_0,HL_0,hz0,hzK,hzP,hzX⟩:=st2 p.cells 167 (⟨xn,(j:Int),xb,xc⟩:Call).cells 165 hk0 hl
 have hwj:IntKind.u64.wrap (j:Int)=(j:Int):=by rw [IntKind.wrap_u64];omega
 have hji:IntKind.i64.wrap (j:Int)=(j:Int):=by rw [IntKind.wrap_i64];omega
 have hj0:(0:Int)≤(j:Int):=by omega
 have hlu:IntKind.u64.wrap (k.ins_.length:Int)=(k.ins_.length:Int):=by rw [IntKind.wrap_u64];omega
 have hlv:IntKind.u64.wrap (bs.length:Int)=(bs.length:Int):=by rw [IntKind.wrap_u64];omega
 by_cases hi1:k.ins_.length≤j
 · have hW:recvs k p (⟨xn,(j:Int),xb,xc⟩:Call)=⟨k,0,7⟩:=by
    rw [recvs]
    simp only [Int.toNat_natCast]
    rw [List.getElem?_eq_none_iff.2 hi1]
   have HW:=hU hW
   clear hW
   go_enter Tryz.func193,Tryz.ntmps193
   repeat' (first
    |(rw [hW0];clear hW0)
    |go_values|go_skip|go_guarded|(with_reducible refine wg ?_)|go_step|go_upon)
   refine wp_region_noPanic ?_
   refine go0 (S:=fun W=> (W.cell? ⟨b,10,none⟩=some (.slice ia k.ins_.length ic))∧(W.cell? ⟨b,11,none⟩=some (.slice ba bs.length bc))∧(W.cell? ⟨w.heap.size + 1,1,none⟩=some (.int .u32 (j:Int)))) [] (⟨((hcell HK_0.out 10).trans (congrArg some HIA.out)),((hcell HK_0.out 11).trans (congrArg some HBA.out)),hcell HX_0.out 1⟩) fun hS=> ?_
   obtain ⟨W1,hWd⟩:=exW W0.drew
   have HK_1:=dB hWd HK_0
   have HP_1:=dB hWd HP_0
   have HX_1:=dB hWd HX_0
   have HE_1:=dE hWd HE_0
   have HL_1:=dL hWd HL_0
   rw [hWd] at hS ⊢
   clear hWd
   clear HK_0 HP_0 HX_0 HE_0 HL_0
   refine tp 0 ?_;try simp only [acts]
   refine tl 1 ?_;try simp only [acts]
   refine tp 2 ?_;try simp only [acts]
   refine tp 3 ?_;try simp only [acts]
   refine tp 4 ?_;try simp only [acts]
   refine tp 5 ?_;try simp only [acts]
   refine tp 6 ?_;try simp only [acts]
   refine tl 7 ?_;try simp only [acts]
   refine tp 8 ?_;try simp only [acts]
   refine tp 9 ?_;try simp only [acts]
   refine tp 10 ?_;try simp only [acts]
   try rw [show decide (k.ins_.length≤j)=true from decide_eq_true hi1]
   refine tp 11 ?_;try simp only [acts]
   refine tn 12 ?_;try simp only [acts]
   refine tn 13 ?_;try simp only [acts]
   refine tn 14 ?_;try simp only [acts]
   refine tn 15 ?_;try simp only [acts]
   refine tn 16 ?_;try simp only [acts]
   refine tn 17 ?_;try simp only [acts]
   refine tn 18 ?_;try simp only [acts]
   refine tn 19 ?_;try simp only [acts]
   refine tn 20 ?_;try simp only [acts]
   refine tn 21 ?_;try simp only [acts]
   refine tn 22 ?_;try simp only [acts]
   refine tp 23 ?_;try simp only [acts]
   refine doneL (by kernel_rfl) (NoPanic.normal ?_) _
   try clear hS
   repeat' (first|go_values|go_skip|go_guarded|(with_reducible refine wg ?_)|go_step|go_upon)
   go_ret2
   rw [HW.out]
   exact ⟨rfl,⟨_,_,HK_1.out,HL_1.out⟩,HE_1.out⟩
 by_cases hi2:bs.length≤j
 · have hW:recvs k p (⟨xn,(j:Int),xb,xc⟩:Call)=⟨k,0,7⟩:=by
    rw [recvs]
    simp only [Int.toNat_natCast]
    rw [List.getElem?_eq_none_iff (l:=k.box)|>.2 (by have:=HBN.out;omega)]
    cases k.ins_[j]? <;> rfl
   have HW:=hU hW
   clear hW
   go_enter Tryz.func193,Tryz.ntmps193
   repeat' (first
    |(rw [hW0];clear hW0)
    |go_values|go_skip|go_guarded|(with_reducible refine wg ?_)|go_step|go_upon)
   refine wp_region_noPanic ?_
   refine go0 (S:=fun W=> (W.cell? ⟨b,10,none⟩=some (.slice ia k.ins_.length ic))∧(W.cell? ⟨b,11,none⟩=some (.slice ba bs.length bc))∧(W.cell? ⟨w.heap.size + 1,1,none⟩=some (.int .u32 (j:Int)))) [] (⟨((hcell HK_0.out 10).trans (congrArg some HIA.out)),((hcell HK_0.out 11).trans (congrArg some HBA.out)),hcell HX_0.out 1⟩) fun hS=> ?_
   obtain ⟨W1,hWd⟩:=exW W0.drew
   have HK_1:=dB hWd HK_0
   have HP_1:=dB hWd HP_0
   have HX_1:=dB hWd HX_0
   have HE_1:=dE hWd HE_0
   have HL_1:=dL hWd HL_0
   rw [hWd] at hS ⊢
   clear hWd
   clear HK_0 HP_0 HX_0 HE_0 HL_0
   refine tp 0 ?_;try simp only [acts]
   refine tl 1 ?_;try simp only [acts]
   refine tp 2 ?_;try simp only [acts]
   refine tp 3 ?_;try simp only [acts]
   refine tp 4 ?_;try simp only [acts]
   refine tp 5 ?_;try simp only [acts]
   refine tp 6 ?_;try simp only [acts]
   refine tl 7 ?_;try simp only [acts]
   refine tp 8 ?_;try simp only [acts]
   refine tp 9 ?_;try simp only [acts]
   refine tp 10 ?_;try simp only [acts]
   try rw [show decide (k.ins_.length≤j)=false from decide_eq_false hi1]
   refine tp 11 ?_;try simp only [acts]
   refine tp 12 ?_;try simp only [acts]
   refine tl 13 ?_;try simp only [acts]
   refine tp 14 ?_;try simp only [acts]
   refine tp 15 ?_;try simp only [acts]
   refine tp 16 ?_;try simp only [acts]
   refine tp 17 ?_;try simp only [acts]
   refine tp 18 ?_;try simp only [acts]
   refine tl 19 ?_;try simp only [acts]
   refine tp 20 ?_;try simp only [acts]
   refine tp 21 ?_;try simp only [acts]
   refine tp 22 ?_;try simp only [acts]
   refine tp 23 ?_;try simp only [acts]
   refine doneL (by kernel_rfl) (NoPanic.normal ?_) _
   try clear hS
   try rw [show decide (bs.length≤j)=true from decide_eq_true hi2]
   repeat' (first|go_values|go_skip|go_guarded|(with_reducible refine wg ?_)|go_step|go_upon)
   go_ret2
   rw [HW.out]
   exact ⟨rfl,⟨_,_,HK_1.out,HL_1.out⟩,HE_1.out⟩
 obtain ⟨c,hc⟩:∃ c,k.ins_[j]? =some c:=⟨_,List.getElem?_eq_getElem (by omega)⟩
 obtain ⟨z,hz⟩:∃ z,bs[j]? =some z:=⟨_,List.getElem?_eq_getElem (by omega)⟩
 have hzb:k.box[j]? =some z.b:=by rw [← hl.bse,List.getElem?_map,hz];rfl
 have hzm:z ∈ bs:=List.mem_of_getElem? hz
 have hzd:=hbd z.b (List.mem_of_getElem? hzb)
 obtain ⟨mt,hmt⟩:∃ mt,(peek z.b).at_=mt:=⟨_,rfl⟩
 obtain ⟨mb,hmb⟩:∃ mb,(peek z.b).body=mb:=⟨_,rfl⟩
 obtain ⟨ee,hee⟩:∃ ee:Int,(if z.b.l.isEmpty then 7 else 0)=ee:=⟨_,rfl⟩
 have hmz:mb.size≤140737488355328:=by
  rw [← hmb]
  unfold peek
  split
  · exact Nat.zero_le _
  · next heq=> exact hzd _ (by rw [heq];exact List.mem_cons_self)
 obtain ⟨mm,hmm⟩:∃ mm,Sg.inM p.mem xb mb=mm:=⟨_,rfl⟩
 obtain ⟨me,hme⟩:∃ me,Sg.inE p.mem xb mb=me:=⟨_,rfl⟩
 have HIN:=hU (fun W=> show Calls Tryz.prog 235 #[.string p.mem,.int .u32 xb,.string mb] W (Gives (.tuple #[.string mm,.int .i64 me]) W) by rw [← hmm,← hme];exact Seg.In p.mem xb mb W (by omega) hmz hb0 hb1)
 have hW:recvs k p (⟨xn,(j:Int),xb,xc⟩:Call)=if ee ≠ 0 then ⟨k,0,6⟩ else if xc<mb.size then ⟨k,0,4⟩ else if me ≠ 0 then ⟨k,0,me⟩ else ⟨{k with box:=k.box.set j (btake c z.b),p:=put k.p {p with mem:=mm}},(mb.size:Int) % 4294967296,0⟩:=by
  rw [recvs]
  simp only [Int.toNat_natCast]
  rw [hc,hzb]
  dsimp only
  rw [← hme,← hmm,← hee,← hmb]
  unfold peek
  cases z.b.l <;> rfl
 have HW:=hU hW
 clear hW
 have HPT:=hU (fun W (h:BoxOk W z)=> show Calls Tryz.prog 237 #[.agg c.cells,.agg (boxCells z)] W (fun e w'=> ∃ yb:BoxV,e=.returned (.tuple #[.agg (boxCells yb),.agg #[.int .u64 mt,.string mb],.int .i64 ee])∧yb.b=btake c z.b∧BoxOk w' yb∧(∀ g,OffRow (.slice z.a z.b.l.length z.c) z.b.l.length g→OffRow (.slice yb.a yb.b.l.length yb.c) yb.b.l.length g)∧Below W.heap.size W w') by rw [← hmt,← hmb,← hee];exact PTakeO c z W h)
 clear hmt hmb hee hmm hme hzd hzb
 obtain ⟨pa,pc,hpa,hpc0,hpc1,h0|⟨gi,oi,ci,ha,hgi,hii⟩⟩:=HL_0.out.ins_
 · rw [h0] at hi1;exact absurd (Nat.zero_le _) hi1
 rw [HIA.out] at hpa
 injection hpa with hpa hpn hpc
 clear hpn
 subst hpa hpc
 subst ha
 have HCI:=hU (hii _ _ hc)
 clear hii hc hpc0 hpc1
 obtain ⟨pa,pc,hpa,hpc0,hpc1,h0|⟨gx,ox,cx,ha,hgx,hxx⟩⟩:=HL_0.out.bx
 · rw [h0] at hi2;exact absurd (Nat.zero_le _) hi2
 rw [HBA.out] at hpa
 injection hpa with hpa hpn hpc
 clear hpn
 subst hpa hpc
 subst ha
 have HCX:=hU (hxx _ _ hz)
 clear hxx hz hpc0 hpc1
 have HI_0:=hU hgi
 clear hgi
 have HQ_0:=hU hgx
 clear hgx
 have hjI:(j:Int)<(k.ins_.length:Int):=by omega
 have hjB:(j:Int)<(bs.length:Int):=by omega
 go_enter Tryz.func193,Tryz.ntmps193
 repeat' (first
  |(rw [hW0];clear hW0)
  |go_values|go_skip|go_guarded|(with_reducible refine wg ?_)|go_step|go_upon)
 refine wp_region_noPanic ?_
 refine go0 (S:=fun W=> (W.cell? ⟨b,10,none⟩=some (.slice (some ⟨gi,oi,none⟩) k.ins_.length ic))∧(W.cell? ⟨b,11,none⟩=some (.slice (some ⟨gx,ox,none⟩) bs.length bc))∧(W.cell? ⟨w.heap.size + 1,1,none⟩=some (.int .u32 (j:Int)))) [] (⟨((hcell HK_0.out 10).trans (congrArg some HIA.out)),((hcell HK_0.out 11).trans (congrArg some HBA.out)),hcell HX_0.out 1⟩) fun hS=> ?_
 obtain ⟨W1,hWd⟩:=exW W0.drew
 have HK_1:=dB hWd HK_0
 have HP_1:=dB hWd HP_0
 have HX_1:=dB hWd HX_0
 have HI_1:=dB hWd HI_0
 have HQ_1:=dB hWd HQ_0
 have HE_1:=dE hWd HE_0
 have HL_1:=dL hWd HL_0
 rw [hWd] at hS ⊢
 clear hWd
 clear HK_0 HP_0 HX_0 HI_0 HQ_0 HE_0 HL_0
 refine tp 0 ?_;try simp only [acts]
 refine tl 1 ?_;try simp only [acts]
 refine tp 2 ?_;try simp only [acts]
 refine tp 3 ?_;try simp only [acts]
 refine tp 4 ?_;try simp only [acts]
 refine tp 5 ?_;try simp only [acts]
 refine tp 6 ?_;try simp only [acts]
 refine tl 7 ?_;try simp only [acts]
 refine tp 8 ?_;try simp only [acts]
 refine tp 9 ?_;try simp only [acts]
 refine tp 10 ?_;try simp only [acts]
 try rw [show decide (k.ins_.length≤j)=false from decide_eq_false hi1]
 refine tp 11 ?_;try simp only [acts]
 refine tp 12 ?_;try simp only [acts]
 refine tl 13 ?_;try simp only [acts]
 refine tp 14 ?_;try simp only [acts]
 refine tp 15 ?_;try simp only [acts]
 refine tp 16 ?_;try simp only [acts]
 refine tp 17 ?_;try simp only [acts]
 refine tp 18 ?_;try simp only [acts]
 refine tl 19 ?_;try simp only [acts]
 refine tp 20 ?_;try simp only [acts]
 refine tp 21 ?_;try simp only [acts]
 refine tp 22 ?_;try simp only [acts]
 refine tp 23 ?_;try simp only [acts]
 refine doneL (by kernel_rfl) (NoPanic.normal ?_) _
 try clear hS
 try rw [show decide (bs.length≤j)=false from decide_eq_false hi2]
 repeat' (first
  |go_values|go_skip|go_guarded|(with_reducible refine wg ?_)|go_step|go_upon)
 refine wp_region_noPanic ?_
 refine go0 (S:=fun W=> (W.cell? ⟨b,10,none⟩=some (.slice (some ⟨gi,oi,none⟩) k.ins_.length ic))∧(W.cell? ⟨b,11,none⟩=some (.slice (some ⟨gx,ox,none⟩) bs.length bc))∧(W.cell? ⟨w.heap.size + 1,1,none⟩=some (.int .u32 (j:Int)))∧(W.heap[gi]? =some (.cells ci 111 (0,0)))∧(W.heap[gx]? =some (.cells cx 78 (0,0)))) [25,26] (⟨((hcell HK_1.out 10).trans (congrArg some HIA.out)),((hcell HK_1.out 11).trans (congrArg some HBA.out)),hcell HX_1.out 1,HI_1.out,HQ_1.out⟩) fun hS=> ?_
 obtain ⟨W2,hWd⟩:=exW W1.drew
 have HK_2:=dB hWd HK_1
 have HP_2:=dB hWd HP_1
 have HX_2:=dB hWd HX_1
 have HI_2:=dB hWd HI_1
 have HQ_2:=dB hWd HQ_1
 have HE_2:=dE hWd HE_1
 have HL_2:=dL hWd HL_1
 rw [hWd] at hS ⊢
 clear hWd
 clear HK_1 HP_1 HX_1 HI_1 HQ_1 HE_1 HL_1
 refine tp 0 ?_;try simp only [acts]
 refine tp 1 ?_;try simp only [acts]
 refine tp 2 ?_;try simp only [acts]
 refine tp 3 ?_;try simp only [acts]
 refine tl 4 ?_;try simp only [acts]
 refine tp 5 ?_;try simp only [acts]
 refine tl 6 ?_;try simp only [acts]
 refine tp 7 ?_;try simp only [acts]
 refine tv 8 (.agg c.cells) (fun W hSW=> run_val_load rfl rfl (run_load_arr (o:=oi + j * 5) aggChan rfl (fun _ u hu=> (hcell hSW.2.2.2.1 _).trans (HCI.out _ u hu)))) ?_
 (try simp only [acts])
 refine tp 9 ?_;try simp only [acts]
 refine tp 10 ?_;try simp only [acts]
 refine tp 11 ?_;try simp only [acts]
 refine tp 12 ?_;try simp only [acts]
 refine tl 13 ?_;try simp only [acts]
 refine tp 14 ?_;try simp only [acts]
 refine tl 15 ?_;try simp only [acts]
 refine tp 16 ?_;try simp only [acts]
 refine tv 17 (.agg (boxCells z)) (fun W hSW=> run_val_load rfl rfl (run_load_arr (o:=ox + j * 2) aggBox rfl (fun _ u hu=> (hcell hSW.2.2.2.2 _).trans (HCX.out _ u hu)))) ?_
 (try simp only [acts])
 clear hS
 revert HK_2 HP_2 HX_2 HI_2 HQ_2 HE_2 HL_2
 apply KR.join4 (F:=fun (abB:Nat) (abM:Nat) (yb:BoxV) (W5:World)=> Hid (W5.heap[abB]? =some (.cells #[.slice none 0 0,.int .i64 0] 78 (0,0)))∧Hid (W5.heap[gi]? =some (.cells ci 111 (0,0)))∧Hid (W5.heap[b]? =some (.cells (kcells y k) 178 (0,0)))∧Hid (W5.heap[abM]? =some (.cells #[.int .u64 0,.string ⟨#[]⟩] 80 (0,0)))∧Hid (W5.heap[w.heap.size]? =some (.cells p.cells 167 (0,0)))∧Hid (W5.heap[gx]? =some (.cells cx 78 (0,0)))∧Hid (W5.heap[(w.heap.size + 1)]? =some (.cells (⟨xn,(j:Int),xb,xc⟩:Call).cells 165 (0,0)))∧Hid (KR.Kept b w W5)∧Hid (LayAt W5 y bs k)∧Hid (Sl 80 2 Msg.cells W5 (.slice yb.a yb.b.l.length yb.c) yb.b.l)∧(w.heap.size≤abB)∧(w.heap.size≤abM)∧(b<abB)∧(b<abM)∧(gx<abB)∧(w.heap.size<abB)∧(w.heap.size<abM)∧(w.heap.size + 1<abB)∧(w.heap.size + 1<abM)∧(OffRow y.bx bs.length abB)∧(∀ u ∈ bs,OffRow (.slice u.a u.b.l.length u.c) u.b.l.length abM)∧(OffRow (.slice yb.a yb.b.l.length yb.c) yb.b.l.length abM)∧(Hid (yb.b=btake c z.b)))
 case h2=>
  intro hj HK_2 HP_2 HX_2 HI_2 HQ_2 HE_2 HL_2
  refine threeL (i:=18) (j:=23) (l:=24) (by kernel_rfl) rfl rfl rfl (fun K hK=> ?_) (fun K hK=> ?_) (fun K hK=> ?_)
  · skip
    refine want rfl ?_
    go_simp
    refine (HPT.out _ (HL_2.out.ok z hzm)).mono ?_
    rintro er W3 ⟨yb,rfl,hyb,hbo,hyo,hb⟩
    have HK_3:=nB hb HK_2
    have HP_3:=nB hb HP_2
    have HX_3:=nB hb HX_2
    have HI_3:=nB hb HI_2
    have HQ_3:=nB hb HQ_2
    have HE_3:=nE hb HE_2
    have HL_3:=nL hb HL_2
    clear HK_2 HP_2 HX_2 HI_2 HQ_2 HE_2 HL_2
    have BO_3:=hU hbo
    clear hb
    dsimp only
    try clear hS
    refine nx hK (⟨((hcell HK_3.out 10).trans (congrArg some HIA.out)),((hcell HK_3.out 11).trans (congrArg some HBA.out)),hcell HX_3.out 1,HI_3.out,HQ_3.out⟩) fun hS=> ?_
    clear hK K
    (try simp only [acts])
    refine tp 19 ?_;try simp only [acts]
    refine tp 20 ?_;try simp only [acts]
    refine tp 21 ?_;try simp only [acts]
    refine tp 22 ?_;try simp only [acts]
    have HYB:=hU hyb
    clear hyb hyo hbo
    refine twoL (i:=23) (j:=24) (by kernel_rfl) rfl rfl (fun K hK=> ?_) (fun K hK=> ?_)
    · skip
      obtain ⟨abB,hab,hab1B⟩:=nb0 HE_3
      have habKB:=nlt HK_3 hab
      have habPB:=nlt HP_3 hab
      have habXB:=nlt HX_3 hab
      have habIB:=nlt HI_3 hab
      have habQB:=nlt HQ_3 hab
      have hoffB:=HL_3.out.bx.offNew (Nat.le_of_eq hab)
      go_simp
      obtain ⟨W4,hWn,hba,HB_4⟩:=nb1 (.cells #[.slice none 0 0,.int .i64 0] 78) hab
      rw [hWn]
      clear hWn
      have HK_4:=nB hba HK_3
      have HP_4:=nB hba HP_3
      have HX_4:=nB hba HX_3
      have HI_4:=nB hba HI_3
      have HQ_4:=nB hba HQ_3
      have HE_4:=nE hba HE_3
      have HL_4:=nL hba HL_3
      have BO_4:=hU (BO_3.out.below hba)
      clear HK_3 HP_3 HX_3 HI_3 HQ_3 HE_3 HL_3 BO_3
      clear hba
      try rw [hab]
      clear hab
      try clear hS
      refine nx hK (⟨((hcell HK_4.out 10).trans (congrArg some HIA.out)),((hcell HK_4.out 11).trans (congrArg some HBA.out)),hcell HX_4.out 1,HI_4.out,HQ_4.out⟩) fun hS=> ?_
      clear hK K
      (try simp only [acts])
      refine ro 24 fun K hK=> ?_
      obtain ⟨abM,hab,hab1M⟩:=nb0 HE_4
      have habKM:=nlt HK_4 hab
      have habPM:=nlt HP_4 hab
      have habXM:=nlt HX_4 hab
      have habIM:=nlt HI_4 hab
      have habQM:=nlt HQ_4 hab
      have habBM:=nlt HB_4 hab
      have hoffXs:∀ u ∈ bs,OffRow (.slice u.a u.b.l.length u.c) u.b.l.length abM:=fun u hu=> (HL_4.out.ok u hu).offNew (Nat.le_of_eq hab)
      have hoffY:=BO_4.out.offNew (Nat.le_of_eq hab)
      go_simp
      obtain ⟨W5,hWn,hba,HM_5⟩:=nb1 (.cells #[.int .u64 0,.string ⟨#[]⟩] 80) hab
      rw [hWn]
      clear hWn
      have HK_5:=nB hba HK_4
      have HP_5:=nB hba HP_4
      have HX_5:=nB hba HX_4
      have HI_5:=nB hba HI_4
      have HQ_5:=nB hba HQ_4
      have HB_5:=nB hba HB_4
      have HE_5:=nE hba HE_4
      have HL_5:=nL hba HL_4
      have BO_5:=hU (BO_4.out.below hba)
      clear HK_4 HP_4 HX_4 HI_4 HQ_4 HB_4 HE_4 HL_4 BO_4
      clear hba
      try rw [hab]
      clear hab
      try clear hS
      refine nx hK (⟨((hcell HK_5.out 10).trans (congrArg some HIA.out)),((hcell HK_5.out 11).trans (congrArg some HBA.out)),hcell HX_5.out 1,HI_5.out,HQ_5.out⟩) fun hS=> ?_
      clear hK K
      (try simp only [acts])
      exact hj abB abM yb W5 ⟨HB_5,HI_5,HK_5,HM_5,HP_5,HQ_5,HX_5,HE_5,HL_5,BO_5,hab1B,hab1M,habKB,habKM,habQB,habPB,habPM,habXB,habXM,hoffB,hoffXs,hoffY,HYB⟩
    · skip
      obtain ⟨abM,hab,hab1M⟩:=nb0 HE_3
      have habKM:=nlt HK_3 hab
      have habPM:=nlt HP_3 hab
      have habXM:=nlt HX_3 hab
      have habIM:=nlt HI_3 hab
      have habQM:=nlt HQ_3 hab
      have hoffXs:∀ u ∈ bs,OffRow (.slice u.a u.b.l.length u.c) u.b.l.length abM:=fun u hu=> (HL_3.out.ok u hu).offNew (Nat.le_of_eq hab)
      have hoffY:=BO_3.out.offNew (Nat.le_of_eq hab)
      go_simp
      obtain ⟨W4,hWn,hba,HM_4⟩:=nb1 (.cells #[.int .u64 0,.string ⟨#[]⟩] 80) hab
      rw [hWn]
      clear hWn
      have HK_4:=nB hba HK_3
      have HP_4:=nB hba HP_3
      have HX_4:=nB hba HX_3
      have HI_4:=nB hba HI_3
      have HQ_4:=nB hba HQ_3
      have HE_4:=nE hba HE_3
      have HL_4:=nL hba HL_3
      have BO_4:=hU (BO_3.out.below hba)
      clear HK_3 HP_3 HX_3 HI_3 HQ_3 HE_3 HL_3 BO_3
      clear hba
      try rw [hab]
      clear hab
      try clear hS
      refine nx hK (⟨((hcell HK_4.out 10).trans (congrArg some HIA.out)),((hcell HK_4.out 11).trans (congrArg some HBA.out)),hcell HX_4.out 1,HI_4.out,HQ_4.out⟩) fun hS=> ?_
      clear hK K
      (try simp only [acts])
      refine ro 23 fun K hK=> ?_
      obtain ⟨abB,hab,hab1B⟩:=nb0 HE_4
      have habKB:=nlt HK_4 hab
      have habPB:=nlt HP_4 hab
      have habXB:=nlt HX_4 hab
      have habIB:=nlt HI_4 hab
      have habQB:=nlt HQ_4 hab
      have habMB:=nlt HM_4 hab
      have hoffB:=HL_4.out.bx.offNew (Nat.le_of_eq hab)
      go_simp
      obtain ⟨W5,hWn,hba,HB_5⟩:=nb1 (.cells #[.slice none 0 0,.int .i64 0] 78) hab
      rw [hWn]
      clear hWn
      have HK_5:=nB hba HK_4
      have HP_5:=nB hba HP_4
      have HX_5:=nB hba HX_4
      have HI_5:=nB hba HI_4
      have HQ_5:=nB hba HQ_4
      have HM_5:=nB hba HM_4
      have HE_5:=nE hba HE_4
      have HL_5:=nL hba HL_4
      have BO_5:=hU (BO_4.out.below hba)
      clear HK_4 HP_4 HX_4 HI_4 HQ_4 HM_4 HE_4 HL_4 BO_4
      clear hba
      try rw [hab]
      clear hab
      try clear hS
      refine nx hK (⟨((hcell HK_5.out 10).trans (congrArg some HIA.out)),((hcell HK_5.out 11).trans (congrArg some HBA.out)),hcell HX_5.out 1,HI_5.out,HQ_5.out⟩) fun hS=> ?_
      clear hK K
      (try simp only [acts])
      exact hj abB abM yb W5 ⟨HB_5,HI_5,HK_5,HM_5,HP_5,HQ_5,HX_5,HE_5,HL_5,BO_5,hab1B,hab1M,habKB,habKM,habQB,habPB,habPM,habXB,habXM,hoffB,hoffXs,hoffY,HYB⟩
  · skip
    obtain ⟨abB,hab,hab1B⟩:=nb0 HE_2
    have habKB:=nlt HK_2 hab
    have habPB:=nlt HP_2 hab
    have habXB:=nlt HX_2 hab
    have habIB:=nlt HI_2 hab
    have habQB:=nlt HQ_2 hab
    have hoffB:=HL_2.out.bx.offNew (Nat.le_of_eq hab)
    go_simp
    obtain ⟨W3,hWn,hba,HB_3⟩:=nb1 (.cells #[.slice none 0 0,.int .i64 0] 78) hab
    rw [hWn]
    clear hWn
    have HK_3:=nB hba HK_2
    have HP_3:=nB hba HP_2
    have HX_3:=nB hba HX_2
    have HI_3:=nB hba HI_2
    have HQ_3:=nB hba HQ_2
    have HE_3:=nE hba HE_2
    have HL_3:=nL hba HL_2
    clear HK_2 HP_2 HX_2 HI_2 HQ_2 HE_2 HL_2
    clear hba
    try rw [hab]
    clear hab
    try clear hS
    refine nx hK (⟨((hcell HK_3.out 10).trans (congrArg some HIA.out)),((hcell HK_3.out 11).trans (congrArg some HBA.out)),hcell HX_3.out 1,HI_3.out,HQ_3.out⟩) fun hS=> ?_
    clear hK K
    (try simp only [acts])
    refine twoL (i:=18) (j:=24) (by kernel_rfl) rfl rfl (fun K hK=> ?_) (fun K hK=> ?_)
    · skip
      refine want rfl ?_
      go_simp
      refine (HPT.out _ (HL_3.out.ok z hzm)).mono ?_
      rintro er W4 ⟨yb,rfl,hyb,hbo,hyo,hb⟩
      have HK_4:=nB hb HK_3
      have HP_4:=nB hb HP_3
      have HX_4:=nB hb HX_3
      have HI_4:=nB hb HI_3
      have HQ_4:=nB hb HQ_3
      have HB_4:=nB hb HB_3
      have HE_4:=nE hb HE_3
      have HL_4:=nL hb HL_3
      clear HK_3 HP_3 HX_3 HI_3 HQ_3 HB_3 HE_3 HL_3
      have BO_4:=hU hbo
      clear hb
      dsimp only
      try clear hS
      refine nx hK (⟨((hcell HK_4.out 10).trans (congrArg some HIA.out)),((hcell HK_4.out 11).trans (congrArg some HBA.out)),hcell HX_4.out 1,HI_4.out,HQ_4.out⟩) fun hS=> ?_
      clear hK K
      (try simp only [acts])
      refine tp 19 ?_;try simp only [acts]
      refine tp 20 ?_;try simp only [acts]
      refine tp 21 ?_;try simp only [acts]
      refine tp 22 ?_;try simp only [acts]
      have HYB:=hU hyb
      clear hyb hyo hbo
      refine ro 24 fun K hK=> ?_
      obtain ⟨abM,hab,hab1M⟩:=nb0 HE_4
      have habKM:=nlt HK_4 hab
      have habPM:=nlt HP_4 hab
      have habXM:=nlt HX_4 hab
      have habIM:=nlt HI_4 hab
      have habQM:=nlt HQ_4 hab
      have habBM:=nlt HB_4 hab
      have hoffXs:∀ u ∈ bs,OffRow (.slice u.a u.b.l.length u.c) u.b.l.length abM:=fun u hu=> (HL_4.out.ok u hu).offNew (Nat.le_of_eq hab)
      have hoffY:=BO_4.out.offNew (Nat.le_of_eq hab)
      go_simp
      obtain ⟨W5,hWn,hba,HM_5⟩:=nb1 (.cells #[.int .u64 0,.string ⟨#[]⟩] 80) hab
      rw [hWn]
      clear hWn
      have HK_5:=nB hba HK_4
      have HP_5:=nB hba HP_4
      have HX_5:=nB hba HX_4
      have HI_5:=nB hba HI_4
      have HQ_5:=nB hba HQ_4
      have HB_5:=nB hba HB_4
      have HE_5:=nE hba HE_4
      have HL_5:=nL hba HL_4
      have BO_5:=hU (BO_4.out.below hba)
      clear HK_4 HP_4 HX_4 HI_4 HQ_4 HB_4 HE_4 HL_4 BO_4
      clear hba
      try rw [hab]
      clear hab
      try clear hS
      refine nx hK (⟨((hcell HK_5.out 10).trans (congrArg some HIA.out)),((hcell HK_5.out 11).trans (congrArg some HBA.out)),hcell HX_5.out 1,HI_5.out,HQ_5.out⟩) fun hS=> ?_
      clear hK K
      (try simp only [acts])
      exact hj abB abM yb W5 ⟨HB_5,HI_5,HK_5,HM_5,HP_5,HQ_5,HX_5,HE_5,HL_5,BO_5,hab1B,hab1M,habKB,habKM,habQB,habPB,habPM,habXB,habXM,hoffB,hoffXs,hoffY,HYB⟩
    · skip
      obtain ⟨abM,hab,hab1M⟩:=nb0 HE_3
      have habKM:=nlt HK_3 hab
      have habPM:=nlt HP_3 hab
      have habXM:=nlt HX_3 hab
      have habIM:=nlt HI_3 hab
      have habQM:=nlt HQ_3 hab
      have habBM:=nlt HB_3 hab
      have hoffXs:∀ u ∈ bs,OffRow (.slice u.a u.b.l.length u.c) u.b.l.length abM:=fun u hu=> (HL_3.out.ok u hu).offNew (Nat.le_of_eq hab)
      go_simp
      obtain ⟨W4,hWn,hba,HM_4⟩:=nb1 (.cells #[.int .u64 0,.string ⟨#[]⟩] 80) hab
      rw [hWn]
      clear hWn
      have HK_4:=nB hba HK_3
      have HP_4:=nB hba HP_3
      have HX_4:=nB hba HX_3
      have HI_4:=nB hba HI_3
      have HQ_4:=nB hba HQ_3
      have HB_4:=nB hba HB_3
      have HE_4:=nE hba HE_3
      have HL_4:=nL hba HL_3
      clear HK_3 HP_3 HX_3 HI_3 HQ_3 HB_3 HE_3 HL_3
      clear hba
      try rw [hab]
      clear hab
      try clear hS
      refine nx hK (⟨((hcell HK_4.out 10).trans (congrArg some HIA.out)),((hcell HK_4.out 11).trans (congrArg some HBA.out)),hcell HX_4.out 1,HI_4.out,HQ_4.out⟩) fun hS=> ?_
      clear hK K
      (try simp only [acts])
      refine ro 18 fun K hK=> ?_
      refine want rfl ?_
      go_simp
      refine (HPT.out _ (HL_4.out.ok z hzm)).mono ?_
      rintro er W5 ⟨yb,rfl,hyb,hbo,hyo,hb⟩
      have HK_5:=nB hb HK_4
      have HP_5:=nB hb HP_4
      have HX_5:=nB hb HX_4
      have HI_5:=nB hb HI_4
      have HQ_5:=nB hb HQ_4
      have HB_5:=nB hb HB_4
      have HM_5:=nB hb HM_4
      have HE_5:=nE hb HE_4
      have HL_5:=nL hb HL_4
      clear HK_4 HP_4 HX_4 HI_4 HQ_4 HB_4 HM_4 HE_4 HL_4
      have BO_5:=hU hbo
      clear hb
      dsimp only
      try clear hS
      refine nx hK (⟨((hcell HK_5.out 10).trans (congrArg some HIA.out)),((hcell HK_5.out 11).trans (congrArg some HBA.out)),hcell HX_5.out 1,HI_5.out,HQ_5.out⟩) fun hS=> ?_
      clear hK K
      (try simp only [acts])
      refine tp 19 ?_;try simp only [acts]
      refine tp 20 ?_;try simp only [acts]
      refine tp 21 ?_;try simp only [acts]
      refine tp 22 ?_;try simp only [acts]
      have HYB:=hU hyb
      have hoffY:=hyo _ (hoffXs z hzm)
      clear hyb hyo hbo
      exact hj abB abM yb W5 ⟨HB_5,HI_5,HK_5,HM_5,HP_5,HQ_5,HX_5,HE_5,HL_5,BO_5,hab1B,hab1M,habKB,habKM,habQB,habPB,habPM,habXB,habXM,hoffB,hoffXs,hoffY,HYB⟩
  · skip
    obtain ⟨abM,hab,hab1M⟩:=nb0 HE_2
    have habKM:=nlt HK_2 hab
    have habPM:=nlt HP_2 hab
    have habXM:=nlt HX_2 hab
    have habIM:=nlt HI_2 hab
    have habQM:=nlt HQ_2 hab
    have hoffXs:∀ u ∈ bs,OffRow (.slice u.a u.b.l.length u.c) u.b.l.length abM:=fun u hu=> (HL_2.out.ok u hu).offNew (Nat.le_of_eq hab)
    go_simp
    obtain ⟨W3,hWn,hba,HM_3⟩:=nb1 (.cells #[.int .u64 0,.string ⟨#[]⟩] 80) hab
    rw [hWn]
    clear hWn
    have HK_3:=nB hba HK_2
    have HP_3:=nB hba HP_2
    have HX_3:=nB hba HX_2
    have HI_3:=nB hba HI_2
    have HQ_3:=nB hba HQ_2
    have HE_3:=nE hba HE_2
    have HL_3:=nL hba HL_2
    clear HK_2 HP_2 HX_2 HI_2 HQ_2 HE_2 HL_2
    clear hba
    try rw [hab]
    clear hab
    try clear hS
    refine nx hK (⟨((hcell HK_3.out 10).trans (congrArg some HIA.out)),((hcell HK_3.out 11).trans (congrArg some HBA.out)),hcell HX_3.out 1,HI_3.out,HQ_3.out⟩) fun hS=> ?_
    clear hK K
    (try simp only [acts])
    refine twoL (i:=18) (j:=23) (by kernel_rfl) rfl rfl (fun K hK=> ?_) (fun K hK=> ?_)
    · skip
      refine want rfl ?_
      go_simp
      refine (HPT.out _ (HL_3.out.ok z hzm)).mono ?_
      rintro er W4 ⟨yb,rfl,hyb,hbo,hyo,hb⟩
      have HK_4:=nB hb HK_3
      have HP_4:=nB hb HP_3
      have HX_4:=nB hb HX_3
      have HI_4:=nB hb HI_3
      have HQ_4:=nB hb HQ_3
      have HM_4:=nB hb HM_3
      have HE_4:=nE hb HE_3
      have HL_4:=nL hb HL_3
      clear HK_3 HP_3 HX_3 HI_3 HQ_3 HM_3 HE_3 HL_3
      have BO_4:=hU hbo
      clear hb
      dsimp only
      try clear hS
      refine nx hK (⟨((hcell HK_4.out 10).trans (congrArg some HIA.out)),((hcell HK_4.out 11).trans (congrArg some HBA.out)),hcell HX_4.out 1,HI_4.out,HQ_4.out⟩) fun hS=> ?_
      clear hK K
      (try simp only [acts])
      refine tp 19 ?_;try simp only [acts]
      refine tp 20 ?_;try simp only [acts]
      refine tp 21 ?_;try simp only [acts]
      refine tp 22 ?_;try simp only [acts]
      have HYB:=hU hyb
      have hoffY:=hyo _ (hoffXs z hzm)
      clear hyb hyo hbo
      refine ro 23 fun K hK=> ?_
      obtain ⟨abB,hab,hab1B⟩:=nb0 HE_4
      have habKB:=nlt HK_4 hab
      have habPB:=nlt HP_4 hab
      have habXB:=nlt HX_4 hab
      have habIB:=nlt HI_4 hab
      have habQB:=nlt HQ_4 hab
      have habMB:=nlt HM_4 hab
      have hoffB:=HL_4.out.bx.offNew (Nat.le_of_eq hab)
      go_simp
      obtain ⟨W5,hWn,hba,HB_5⟩:=nb1 (.cells #[.slice none 0 0,.int .i64 0] 78) hab
      rw [hWn]
      clear hWn
      have HK_5:=nB hba HK_4
      have HP_5:=nB hba HP_4
      have HX_5:=nB hba HX_4
      have HI_5:=nB hba HI_4
      have HQ_5:=nB hba HQ_4
      have HM_5:=nB hba HM_4
      have HE_5:=nE hba HE_4
      have HL_5:=nL hba HL_4
      have BO_5:=hU (BO_4.out.below hba)
      clear HK_4 HP_4 HX_4 HI_4 HQ_4 HM_4 HE_4 HL_4 BO_4
      clear hba
      try rw [hab]
      clear hab
      try clear hS
      refine nx hK (⟨((hcell HK_5.out 10).trans (congrArg some HIA.out)),((hcell HK_5.out 11).trans (congrArg some HBA.out)),hcell HX_5.out 1,HI_5.out,HQ_5.out⟩) fun hS=> ?_
      clear hK K
      (try simp only [acts])
      exact hj abB abM yb W5 ⟨HB_5,HI_5,HK_5,HM_5,HP_5,HQ_5,HX_5,HE_5,HL_5,BO_5,hab1B,hab1M,habKB,habKM,habQB,habPB,habPM,habXB,habXM,hoffB,hoffXs,hoffY,HYB⟩
    · skip
      obtain ⟨abB,hab,hab1B⟩:=nb0 HE_3
      have habKB:=nlt HK_3 hab
      have habPB:=nlt HP_3 hab
      have habXB:=nlt HX_3 hab
      have habIB:=nlt HI_3 hab
      have habQB:=nlt HQ_3 hab
      have habMB:=nlt HM_3 hab
      have hoffB:=HL_3.out.bx.offNew (Nat.le_of_eq hab)
      go_simp
      obtain ⟨W4,hWn,hba,HB_4⟩:=nb1 (.cells #[.slice none 0 0,.int .i64 0] 78) hab
      rw [hWn]
      clear hWn
      have HK_4:=nB hba HK_3
      have HP_4:=nB hba HP_3
      have HX_4:=nB hba HX_3
      have HI_4:=nB hba HI_3
      have HQ_4:=nB hba HQ_3
      have HM_4:=nB hba HM_3
      have HE_4:=nE hba HE_3
      have HL_4:=nL hba HL_3
      clear HK_3 HP_3 HX_3 HI_3 HQ_3 HM_3 HE_3 HL_3
      clear hba
      try rw [hab]
      clear hab
      try clear hS
      refine nx hK (⟨((hcell HK_4.out 10).trans (congrArg some HIA.out)),((hcell HK_4.out 11).trans (congrArg some HBA.out)),hcell HX_4.out 1,HI_4.out,HQ_4.out⟩) fun hS=> ?_
      clear hK K
      (try simp only [acts])
      refine ro 18 fun K hK=> ?_
      refine want rfl ?_
      go_simp
      refine (HPT.out _ (HL_4.out.ok z hzm)).mono ?_
      rintro er W5 ⟨yb,rfl,hyb,hbo,hyo,hb⟩
      have HK_5:=nB hb HK_4
      have HP_5:=nB hb HP_4
      have HX_5:=nB hb HX_4
      have HI_5:=nB hb HI_4
      have HQ_5:=nB hb HQ_4
      have HM_5:=nB hb HM_4
      have HB_5:=nB hb HB_4
      have HE_5:=nE hb HE_4
      have HL_5:=nL hb HL_4
      clear HK_4 HP_4 HX_4 HI_4 HQ_4 HM_4 HB_4 HE_4 HL_4
      have BO_5:=hU hbo
      clear hb
      dsimp only
      try clear hS
      refine nx hK (⟨((hcell HK_5.out 10).trans (congrArg some HIA.out)),((hcell HK_5.out 11).trans (congrArg some HBA.out)),hcell HX_5.out 1,HI_5.out,HQ_5.out⟩) fun hS=> ?_
      clear hK K
      (try simp only [acts])
      refine tp 19 ?_;try simp only [acts]
      refine tp 20 ?_;try simp only [acts]
      refine tp 21 ?_;try simp only [acts]
      refine tp 22 ?_;try simp only [acts]
      have HYB:=hU hyb
      have hoffY:=hyo _ (hoffXs z hzm)
      clear hyb hyo hbo
      exact hj abB abM yb W5 ⟨HB_5,HI_5,HK_5,HM_5,HP_5,HQ_5,HX_5,HE_5,HL_5,BO_5,hab1B,hab1M,habKB,habKM,habQB,habPB,habPM,habXB,habXM,hoffB,hoffXs,hoffY,HYB⟩
 rintro abB abM yb W5 ⟨HB_5,HI_5,HK_5,HM_5,HP_5,HQ_5,HX_5,HE_5,HL_5,BO_5,hab1B,hab1M,habKB,habKM,habQB,habPB,habPM,habXB,habXM,hoffB,hoffXs,hoffY,HYB⟩
 have hS:(fun W:World=> (W.cell? ⟨b,10,none⟩=some (.slice (some ⟨gi,oi,none⟩) k.ins_.length ic))∧(W.cell? ⟨b,11,none⟩=some (.slice (some ⟨gx,ox,none⟩) bs.length bc))∧(W.cell? ⟨w.heap.size + 1,1,none⟩=some (.int .u32 (j:Int)))∧(W.heap[gi]? =some (.cells ci 111 (0,0)))∧(W.heap[gx]? =some (.cells cx 78 (0,0)))) W5:=⟨((hcell HK_5.out 10).trans (congrArg some HIA.out)),((hcell HK_5.out 11).trans (congrArg some HBA.out)),hcell HX_5.out 1,HI_5.out,HQ_5.out⟩
 refine ro 25 fun K hK=> ?_
 refine want rfl ?_
 refine wp_store (v:=.agg (boxCells yb)) (off:=0) (new:=(boxCells yb)) rfl rfl rfl aggBox.size HB_5.out rfl (show 0 + 2≤2 by decide) (onesBx yb) rfl ?_
 intro W6 hp
 have HE_6:=pE hp HE_5
 have HL_6:Hid (LayAt W6 y bs k):=hU (HL_5.out.putBox hoffB HB_5.out hp)
 have HB_6:=pA hp
 have HK_6:=pT hp HB_5 HK_5
 have HP_6:=pT hp HB_5 HP_5
 have HX_6:=pT hp HB_5 HX_5
 have HI_6:=pT hp HB_5 HI_5
 have HQ_6:=pO hp HQ_5
 have HM_6:=pT hp HB_5 HM_5
 have BO_6:=hU (BO_5.out.put HB_5.out hp (by decide))
 clear hp
 clear HK_5 HP_5 HX_5 HI_5 HQ_5 HB_5 HM_5 HE_5 HL_5 BO_5
 refine nt hK ?_
 clear hK K
 try clear hS
 (try simp only [acts])
 refine ro 26 fun K hK=> ?_
 refine want rfl ?_
 refine wp_store (v:=.agg #[.int .u64 mt,.string mb]) (off:=0) (new:=#[.int .u64 mt,.string mb]) rfl rfl rfl aggMsg.size HM_6.out rfl (show 0 + 2≤2 by decide) (by intro u hu;simp [Value.cells] at hu;rcases hu with rfl|rfl <;> rfl) rfl ?_
 intro W7 hp
 have HE_7:=pE hp HE_6
 have HL_7:Hid (LayAt W7 y bs k):=hU (HL_6.out.putMsg hoffXs HM_6.out hp)
 have HM_7:=pA hp
 have HK_7:=pT hp HM_6 HK_6
 have HP_7:=pT hp HM_6 HP_6
 have HX_7:=pT hp HM_6 HX_6
 have HI_7:=pT hp HM_6 HI_6
 have HQ_7:=pT hp HM_6 HQ_6
 have HB_7:=pT hp HM_6 HB_6
 have BO_7:=hU (BO_6.out.putOff hoffY hp)
 clear hp
 clear HK_6 HP_6 HX_6 HI_6 HQ_6 HB_6 HM_6 HE_6 HL_6 BO_6
 refine nt hK ?_
 clear hK K
 try clear hS
 (try simp only [acts])
 refine tp 27 ?_;try simp only [acts]
 refine doneL (by kernel_rfl) (NoPanic.normal ?_) _
 try clear hS
 clear HI_7
 clear HQ_7
 by_cases hz:ee=0
 rotate_left
 · have HW1:=HW.out
   rw [if_pos hz] at HW1
   have HW2:=hU HW1
   have hzb:(ee !=0)=true:=by simp [hz]
   clear HW1 HW
   repeat' (first
    |go_values|go_skip|go_guarded|(with_reducible refine wg ?_)|go_step|go_upon)
   go_ret2
   rw [HW2.out]
   exact ⟨rfl,⟨_,_,HK_7.out,HL_7.out⟩,HE_7.out⟩
 subst hz
 have HW1:=HW.out
 rw [if_neg (by simp)] at HW1
 clear HW
 have kM1:W7.cell? ⟨abM,1,none⟩=some (.string mb):=hcell HM_7.out 1
 have kC:W7.cell? ⟨w.heap.size + 1,3,none⟩=some (.int .u32 xc):=hcell HX_7.out 3
 have hwm:IntKind.u64.wrap (mb.size:Int)=(mb.size:Int):=by rw [IntKind.wrap_u64];omega
 have hwc:IntKind.u64.wrap xc=xc:=by rw [IntKind.wrap_u64];omega
 by_cases hbig:xc<(mb.size:Int)
 · rw [if_pos hbig] at HW1
   have HW2:=hU HW1
   have hbd2:=decide_eq_true hbig
   clear HW1 hbig
   repeat' (first
    |go_values|go_skip|go_guarded|(with_reducible refine wg ?_)|go_step|go_upon)
   go_ret2
   rw [HW2.out]
   exact ⟨rfl,⟨_,_,HK_7.out,HL_7.out⟩,HE_7.out⟩
 rw [if_neg hbig] at HW1
 have hbd2:=decide_eq_false hbig
 have hms:(mb.size:Int)<4294967296:=by omega
 clear hbig
 have kM:W7.cell? ⟨w.heap.size,12,none⟩=some (.string p.mem):=hcell HP_7.out 12
 have kB:W7.cell? ⟨w.heap.size + 1,2,none⟩=some (.int .u32 xb):=hcell HX_7.out 2
 repeat' (first
  |go_values|go_skip|go_guarded|(with_reducible refine wg ?_)|go_step|go_upon)
 refine (HIN.out _).mono ?_
 rintro er W8 ⟨rfl,hb⟩
 have HK_8:=nB hb HK_7
 have HP_8:=nB hb HP_7
 have HX_8:=nB hb HX_7
 have HB_8:=nB hb HB_7
 have HM_8:=nB hb HM_7
 have HE_8:=nE hb HE_7
 have HL_8:=nL hb HL_7
 have BO_8:=hU (BO_7.out.below hb)
 clear HK_7 HP_7 HX_7 HB_7 HM_7 HE_7 HL_7 BO_7
 clear hb kM kB kC kM1 hbd2
 dsimp only
 by_cases hz:me=0
 rotate_left
 · rw [if_pos hz] at HW1
   have HW2:=hU HW1
   have hzb:(me !=0)=true:=by simp [hz]
   clear HW1
   repeat' (first
    |go_values|go_skip|go_guarded|(with_reducible refine wg ?_)|go_step|go_upon)
   go_ret2
   rw [HW2.out]
   exact ⟨rfl,⟨_,_,HK_8.out,HL_8.out⟩,HE_8.out⟩
 subst hz
 rw [if_neg (by simp)] at HW1
 have HW2:=hU HW1
 clear HW1
 repeat' (first
  |(refine wpList_store1 (t:=9) (v:=.string mm) (off:=12) (new:=({p with mem:=mm}:Proc).cells) rfl rfl rfl rfl oneStr HP_8.out rfl rfl (show 12 + 1≤26 by decide) rfl ?_;intro W9 hp
    have HE_9:=pE hp HE_8
    have HL_9:Hid (LayAt W9 y bs k):=hU (HL_8.out.putProc (HL_8.out.p.putOff (hl.p.offNew (Nat.le_refl _)) hp) HP_8.out hp)
    have HP_9:=pA hp
    have HK_9:=pT hp HP_8 HK_8
    have HX_9:=pT hp HP_8 HX_8
    have HB_9:=pT hp HP_8 HB_8
    have HM_9:=pT hp HP_8 HM_8
    have BO_9:=hU (BO_8.out.put HP_8.out hp (by decide))
    clear hp
    clear HK_8 HP_8 HX_8 HB_8 HM_8 HE_8 HL_8 BO_8
    have kB4:W9.cell? ⟨b,11,none⟩=some y.bx:=hcell HK_9.out 11)
  |go_values|go_skip|go_guarded|(with_reducible refine wg ?_)|go_step|go_upon)
 have hG6:=hlt HB_9.out
 have hG7:=hlt HM_9.out
 have hE6:=HE_9.out.size
 refine (cloneBox y.bx bs _ HL_9.out.bx (by omega)).mono ?_
 rintro er W10 ⟨vc,rfl,ho,hb⟩
 have HK_10:=nB hb HK_9
 have HP_10:=nB hb HP_9
 have HX_10:=nB hb HX_9
 have HB_10:=nB hb HB_9
 have HM_10:=nB hb HM_9
 have HE_10:=nE hb HE_9
 have HL_10:=nL hb HL_9
 have BO_10:=hU (BO_9.out.below hb)
 clear HK_9 HP_9 HX_9 HB_9 HM_9 HE_9 HL_9 BO_9
 clear hb kB4
 have hne:bs ≠ []:=fun h=> by rw [h] at hi2;exact hi2 (Nat.zero_le _)
 obtain ⟨gc,cap,cur2,rfl,hB,hrow⟩:=Own.row ho hne
 clear ho hne
 dsimp only
 have hrc:=hrow.2
 have hcap:=hrc.1
 have hcsz:=hrc.2.2.1
 have HC_10:=hU hrow.1
 clear hrow
 have hcs:∀ W:World,W.heap[gc]? =some (.cells cur2 78 (0,0))→SlBx W (.slice (some ⟨gc,0,none⟩) bs.length cap) bs:=fun W h=> KR.Own.sl szBox (Row.own szBox (cap:=cap) (cur:=cur2) ⟨h,hrc⟩ (Nat.zero_le gc))
 repeat' (first
  |(refine wpList_store1 (t:=52) (v:=(.slice (some ⟨gc,0,none⟩) bs.length cap)) (off:=11) (new:=kcells {y with bx:=(.slice (some ⟨gc,0,none⟩) bs.length cap)} k) rfl rfl rfl rfl oneSBox HK_10.out (hcs _ HC_10.out).vcells (hcs _ HC_10.out).vone (show 11 + 1≤17 by decide) rfl ?_;intro W11 hp
    have HL_11:Hid (LayAt W11 {y with bx:=(.slice (some ⟨gc,0,none⟩) bs.length cap)} bs k):=hU ((HL_10.out.setBx0 (hcs _ HC_10.out)).put HK_10.out noWork hp)
    have HE_11:=pK hp HE_10
    have HK_11:Hid (W11.heap[b]? =some (.cells (kcells {y with bx:=(.slice (some ⟨gc,0,none⟩) bs.length cap)} k) 178 (0,0))):=pA hp
    have HP_11:=pT hp HK_10 HP_10
    have HX_11:=pT hp HK_10 HX_10
    have HB_11:=pT hp HK_10 HB_10
    have HM_11:=pT hp HK_10 HM_10
    have HC_11:=pT hp HK_10 HC_10
    have BO_11:=hU (BO_10.out.put HK_10.out hp (by decide))
    clear hp
    clear HK_10 HP_10 HX_10 HB_10 HM_10 HC_10 HE_10 HL_10 BO_10)
  |go_values|go_skip|go_guarded|(with_reducible refine wg ?_)|go_step|go_upon)
 refine wp_region_noPanic ?_
 refine go0 (S:=fun W=> (W.cell? ⟨b,11,none⟩=some (.slice (some ⟨gc,0,none⟩) bs.length cap))∧(W.cell? ⟨w.heap.size + 1,1,none⟩=some (.int .u32 (j:Int)))∧(W.heap[abB]? =some (.cells (boxCells yb) 78 (0,0)))) [9] (⟨hcell HK_11.out 11,hcell HX_11.out 1,HB_11.out⟩) fun hS=> ?_
 obtain ⟨W12,hWd⟩:=exW W11.drew
 have HK_12:=dB hWd HK_11
 have HP_12:=dB hWd HP_11
 have HX_12:=dB hWd HX_11
 have HB_12:=dB hWd HB_11
 have HM_12:=dB hWd HM_11
 have HC_12:=dB hWd HC_11
 have HE_12:=dE hWd HE_11
 have HL_12:=dL hWd HL_11
 have BO_12:=dS hWd BO_11
 rw [hWd] at hS ⊢
 clear hWd
 clear HK_11 HP_11 HX_11 HB_11 HM_11 HC_11 HE_11 HL_11 BO_11
 refine tp 0 ?_;try simp only [acts]
 refine tp 1 ?_;try simp only [acts]
 refine tp 2 ?_;try simp only [acts]
 refine tp 3 ?_;try simp only [acts]
 refine tl 4 ?_;try simp only [acts]
 refine tp 5 ?_;try simp only [acts]
 refine tl 6 ?_;try simp only [acts]
 refine tv 7 (.agg (boxCells yb)) (fun W hSW=> run_val_load rfl rfl (run_load_whole aggBox hSW.2.2 rfl)) ?_
 (try simp only [acts])
 refine tp 8 ?_;try simp only [acts]
 refine ro 9 fun K hK=> ?_
 refine want rfl ?_
 refine wp_store (v:=.agg (boxCells yb)) (off:=j * 2) (new:=(splice cur2 (j * 2) (boxCells yb))) rfl rfl rfl aggBox.size HC_12.out rfl (by first|omega|(simp only [Value.cells,szBox];omega)|(rw [show (Value.agg (boxCells yb)).cells.size=2 from rfl];omega)) (onesBx yb) rfl ?_
 intro W13 hp
 have HE_13:=pE hp HE_12
 have HL_13:Hid (LayAt W13 {y with bx:=(.slice (some ⟨gc,0,none⟩) bs.length cap)} (bs.set j yb) {k with box:=k.box.set j yb.b}):=hU (HL_12.out.putRow (boxRow_set HC_12.out hrc (by omega) hp) BO_12.out HC_12.out hp)
 have HC_13:=pA hp
 have HK_13:=pT hp HC_12 HK_12
 have HP_13:=pT hp HC_12 HP_12
 have HX_13:=pT hp HC_12 HX_12
 have HB_13:=pO hp HB_12
 have HM_13:=pT hp HC_12 HM_12
 have BO_13:=hU (BO_12.out.put HC_12.out hp (by decide))
 clear hp
 clear HK_12 HP_12 HX_12 HB_12 HM_12 HC_12 HE_12 HL_12 BO_12
 refine nt hK ?_
 clear hK K
 try clear hS
 (try simp only [acts])
 refine doneL (by kernel_rfl) (NoPanic.normal ?_) _
 try clear hS
 clear BO_13
 repeat' (first|go_values|go_skip|go_guarded|(with_reducible refine wg ?_)|go_step|go_upon)
 refine wp_region_noPanic ?_
 refine go0 (S:=fun W=> (W.cell? ⟨b,0,none⟩=some y.p)∧(W.heap[w.heap.size]? =some (.cells ({p with mem:=mm}:Proc).cells 167 (0,0)))) [11] (⟨hcell HK_13.out 0,HP_13.out⟩) fun hS=> ?_
 obtain ⟨W14,hWd⟩:=exW W13.drew
 have HK_14:=dB hWd HK_13
 have HP_14:=dB hWd HP_13
 have HX_14:=dB hWd HX_13
 have HB_14:=dB hWd HB_13
 have HM_14:=dB hWd HM_13
 have HC_14:=dB hWd HC_13
 have HE_14:=dE hWd HE_13
 have HL_14:=dL hWd HL_13
 rw [hWd] at hS ⊢
 clear hWd
 clear HK_13 HP_13 HX_13 HB_13 HM_13 HC_13 HE_13 HL_13
 refine tp 0 ?_;try simp only [acts]
 refine tp 1 ?_;try simp only [acts]
 refine tp 2 ?_;try simp only [acts]
 refine tp 3 ?_;try simp only [acts]
 refine tp 4 ?_;try simp only [acts]
 refine tl 5 ?_;try simp only [acts]
 refine tv 6 (.agg ({p with mem:=mm}:Proc).cells) (fun W hSW=> run_val_load rfl rfl (run_load_whole aggProc hSW.2 rfl)) ?_
 (try simp only [acts])
 refine ro 7 fun K hK=> ?_
 refine want rfl ?_
 go_simp
 refine (TPut y.p k.p ({p with mem:=mm}:Proc) _ HL_14.out.p (by omega)).mono ?_
 rintro er W15 ⟨v6,rfl,ho,hb⟩
 have HK_15:=nB hb HK_14
 have HP_15:=nB hb HP_14
 have HX_15:=nB hb HX_14
 have HB_15:=nB hb HB_14
 have HM_15:=nB hb HM_14
 have HC_15:=nB hb HC_14
 have HE_15:=nE hb HE_14
 have HL_15:=nL hb HL_14
 clear HK_14 HP_14 HX_14 HB_14 HM_14 HC_14 HE_14 HL_14
 clear hb
 have SP_15:=hU (KR.Own.sl szProc ho)
 dsimp only
 try clear hS
 refine nx hK (⟨hcell HK_15.out 0,HP_15.out⟩) fun hS=> ?_
 clear hK K
 (try simp only [acts])
 refine tp 8 ?_;try simp only [acts]
 refine tp 9 ?_;try simp only [acts]
 refine tp 10 ?_;try simp only [acts]
 refine ro 11 fun K hK=> ?_
 refine want rfl ?_
 refine wp_store1 (v:=v6) (off:=0) (new:=kcells {y with bx:=(.slice (some ⟨gc,0,none⟩) bs.length cap),p:=v6} {k with box:=k.box.set j yb.b,p:=put k.p ({p with mem:=mm}:Proc)}) rfl rfl rfl oneSProc HK_15.out SP_15.out.vcells SP_15.out.vone (show 0 + 1≤17 by decide) rfl ?_
 intro W16 hp
 have HL_16:Hid (LayAt W16 {y with bx:=(.slice (some ⟨gc,0,none⟩) bs.length cap),p:=v6} (bs.set j yb) {k with box:=k.box.set j yb.b,p:=put k.p ({p with mem:=mm}:Proc)}):=hU ((HL_15.out.setP SP_15.out).put HK_15.out noWork hp)
 have HE_16:=pK hp HE_15
 have HK_16:Hid (W16.heap[b]? =some (.cells (kcells {y with bx:=(.slice (some ⟨gc,0,none⟩) bs.length cap),p:=v6} {k with box:=k.box.set j yb.b,p:=put k.p ({p with mem:=mm}:Proc)}) 178 (0,0))):=pA hp
 have HP_16:=pT hp HK_15 HP_15
 have HX_16:=pT hp HK_15 HX_15
 have HB_16:=pT hp HK_15 HB_15
 have HM_16:=pT hp HK_15 HM_15
 have HC_16:=pT hp HK_15 HC_15
 have SP_16:=hU (SP_15.out.put HK_15.out hp (by decide))
 clear hp
 clear HK_15 HP_15 HX_15 HB_15 HM_15 HC_15 HE_15 HL_15 SP_15
 refine nt hK ?_
 clear hK K
 try clear hS
 (try simp only [acts])
 refine doneL (by kernel_rfl) (NoPanic.normal ?_) _
 try clear hS
 have kM1:W16.cell? ⟨abM,1,none⟩=some (.string mb):=hcell HM_16.out 1
 have HW3:=HW2.out
 rw [← HYB.out] at HW3
 have HW4:=hU HW3
 clear HW3 HW2
 repeat' (first|go_values|go_skip|go_guarded|(with_reducible refine wg ?_)|go_step|go_upon)
 go_ret2
 rw [HW4.out]
 exact ⟨congrArg (fun z=> Ending.returned (.tuple #[.int .u32 z,.int .i64 0])) (Int.emod_eq_of_lt (a:=(mb.size:Int)) (b:=4294967296) (by omega) (by omega)).symm,⟨_,_,HK_16.out,HL_16.out⟩,HE_16.out⟩
end Kn
end Go.Proofs.YtkepkcjjenidgaaGreatDoor
