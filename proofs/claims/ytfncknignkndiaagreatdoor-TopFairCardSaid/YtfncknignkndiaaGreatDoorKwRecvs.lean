/- kern.recvs. Conditions: as many as Go can hold; words' numbers. -/
import Derived.Test.YtfncknignkndiaaGreatDoorGSeg
import Derived.Test.YtfncknignkndiaaGreatDoorGBox
set_option linter.unusedVariables false
set_option maxRecDepth 100000
set_option maxHeartbeats 8000000
set_option linter.unusedSimpArgs false
namespace Go.Proofs.YtfncknignkndiaaGreatDoor
open Tryz
open Go.RowKit KR RegT3
namespace Kn
theorem qWf (b:Nat) (k:aI) (p:Proc) (x:Call) (w:World) (hk:cH w b k) (hn:k.p.length≤1000000) (hbl2:k.box.length≤1000000) (hbd:∀ q ∈ k.box,∀ m ∈ q.l,m.body.size≤140737488355328) (hm:p.mem.size≤1000000) (ha0:0≤x.a) (ha1:x.a<4294967296) (hb0:0≤x.b) (hb1:x.b<4294967296) (hc0:0≤x.c) (hc1:x.c<4294967296):
 Calls prog 181 #[.pointer (some ⟨b,0,none⟩),.agg p.cells,.agg x.cells] w (eN b (.tuple #[.int .u32 (mH k p x).v,.int .i64 (mH k p x).e]) (mH k p x).k w):=by
 obtain ⟨y,bs,hk0,hl⟩:=hk;have hbl:=hlt hk0;obtain ⟨xn,xa,xb,xc⟩:=x;dsimp only at ha0 ha1 hb0 hb1 hc0 hc1;obtain ⟨j,rfl⟩:∃ j:Nat,xa=(j:Int):=⟨xa.toNat,by omega⟩
 have hbn:bs.length=k.box.length:=by rw [← hl.bse,List.length_map]
 have hbs1:bs.length≤1000000:=by omega
 have HBN:=hU hbn;clear hbn;obtain ⟨ia,ic,hia,hic,_⟩:=hl.ins_.shape;have HIA:=hU hia;clear hia;obtain ⟨ba,bc,hba,hbc,_⟩:=hl.bx.shape;have HBA:=hU hba;clear hba;obtain ⟨W0,hW0,K0,P0,X0,E0,L0,hz0,hzK,hzP,hzX⟩:=st2 p.cells 121 (⟨xn,(j:Int),xb,xc⟩:Call).cells 119 hk0 hl;have hwj:IntKind.u64.wrap (j:Int)=(j:Int):=by rw [IntKind.wrap_u64];omega
 have hji:IntKind.i64.wrap (j:Int)=(j:Int):=by rw [IntKind.wrap_i64];omega
 have hj0:(0:Int)≤(j:Int):=by omega
 have hlu:IntKind.u64.wrap (k.ins_.length:Int)=(k.ins_.length:Int):=by rw [IntKind.wrap_u64];omega
 have hlv:IntKind.u64.wrap (bs.length:Int)=(bs.length:Int):=by rw [IntKind.wrap_u64];omega
 by_cases hi1:k.ins_.length≤j
 · have hW:mH k p (⟨xn,(j:Int),xb,xc⟩:Call)=⟨k,0,7⟩:=by
    rw [mH];simp only [Int.toNat_natCast];rw [List.getElem?_eq_none_iff.2 hi1]
   have HW:=hU hW;clear hW;go_in
   repeat' (first
    |(rw [hW0];clear hW0)
    |go_values|go_skip|go_guarded|refine wg ?_|go_step|go_upon)
   refine wp_region_noPanic ?_;refine go0 (S:=fun W=> (W.cell? ⟨b,10,none⟩=some (.slice ia k.ins_.length ic))∧(W.cell? ⟨b,11,none⟩=some (.slice ba bs.length bc))∧(W.cell? ⟨w.heap.size + 1,1,none⟩=some (.int .u32 (j:Int)))) [] (⟨((aC K0.out 10).trans (congrArg some HIA.out)),((aC K0.out 11).trans (congrArg some HBA.out)),aC X0.out 1⟩) fun hS=> ?_;obtain ⟨W1,hWd⟩:=exW W0.drew;obtain ⟨K1,P1,X1,E1,L1⟩:=n5 (dW hWd) K0 P0 X0 E0 L0;rw [hWd] at hS ⊢;clear hWd;clear K0 P0 X0 E0 L0;refine ts [.p 0,.l 1,.p 2,.p 3,.p 4,.p 5,.p 6,.l 7,.p 8,.p 9,.p 10] ?_;try rw [show decide (k.ins_.length≤j)=true from decide_eq_true hi1]
   refine ts [.p 11,.n 12,.n 13,.n 14,.n 15,.n 16,.n 17,.n 18,.n 19,.n 20,.n 21,.n 22,.p 23] ?_;refine aZ (by kernel_rfl) (NoPanic.normal ?_) _;try clear hS
   refine sg ?_;intros;go_ret2
   rw [HW.out];exact ⟨rfl,⟨_,_,K1.out,L1.out⟩,E1.out⟩
 by_cases hi2:bs.length≤j
 · have hW:mH k p (⟨xn,(j:Int),xb,xc⟩:Call)=⟨k,0,7⟩:=by
    rw [mH];simp only [Int.toNat_natCast];rw [List.getElem?_eq_none_iff (l:=k.box)|>.2 (by have:=HBN.out;omega)];cases k.ins_[j]? <;> rfl
   have HW:=hU hW;clear hW;go_in
   repeat' (first
    |(rw [hW0];clear hW0)
    |go_values|go_skip|go_guarded|refine wg ?_|go_step|go_upon)
   refine wp_region_noPanic ?_;refine go0 (S:=fun W=> (W.cell? ⟨b,10,none⟩=some (.slice ia k.ins_.length ic))∧(W.cell? ⟨b,11,none⟩=some (.slice ba bs.length bc))∧(W.cell? ⟨w.heap.size + 1,1,none⟩=some (.int .u32 (j:Int)))) [] (⟨((aC K0.out 10).trans (congrArg some HIA.out)),((aC K0.out 11).trans (congrArg some HBA.out)),aC X0.out 1⟩) fun hS=> ?_;obtain ⟨W1,hWd⟩:=exW W0.drew;obtain ⟨K1,P1,X1,E1,L1⟩:=n5 (dW hWd) K0 P0 X0 E0 L0;rw [hWd] at hS ⊢;clear hWd;clear K0 P0 X0 E0 L0;refine ts [.p 0,.l 1,.p 2,.p 3,.p 4,.p 5,.p 6,.l 7,.p 8,.p 9,.p 10] ?_;try rw [show decide (k.ins_.length≤j)=false from decide_eq_false hi1]
   refine ts [.p 11,.p 12,.l 13,.p 14,.p 15,.p 16,.p 17,.p 18,.l 19,.p 20,.p 21,.p 22,.p 23] ?_;refine aZ (by kernel_rfl) (NoPanic.normal ?_) _;try clear hS
   try rw [show decide (bs.length≤j)=true from decide_eq_true hi2]
   refine sg ?_;intros;go_ret2
   rw [HW.out];exact ⟨rfl,⟨_,_,K1.out,L1.out⟩,E1.out⟩
 obtain ⟨c,hc⟩:∃ c,k.ins_[j]? =some c:=⟨_,List.getElem?_eq_getElem (by omega)⟩
 obtain ⟨z,hz⟩:∃ z,bs[j]? =some z:=⟨_,List.getElem?_eq_getElem (by omega)⟩
 have hzb:k.box[j]? =some z.b:=by rw [← hl.bse,List.getElem?_map,hz];rfl
 have hzm:z ∈ bs:=List.mem_of_getElem? hz;have hzd:=hbd z.b (List.mem_of_getElem? hzb);obtain ⟨mt,hmt⟩:∃ mt,(peek z.b).at_=mt:=⟨_,rfl⟩
 obtain ⟨mb,hmb⟩:∃ mb,(peek z.b).body=mb:=⟨_,rfl⟩
 obtain ⟨ee,hee⟩:∃ ee:Int,(if z.b.l.isEmpty then 7 else 0)=ee:=⟨_,rfl⟩
 have hmz:mb.size≤140737488355328:=by
  rw [← hmb];unfold peek;split
  · exact Nat.zero_le _
  · next heq=> exact hzd _ (by rw [heq];exact List.mem_cons_self)
 obtain ⟨mm,hmm⟩:∃ mm,Sg.inM p.mem xb mb=mm:=⟨_,rfl⟩
 obtain ⟨me,hme⟩:∃ me,Sg.inE p.mem xb mb=me:=⟨_,rfl⟩
 have HIN:=hU (fun W=> show Calls prog 219 #[.string p.mem,.int .u32 xb,.string mb] W (aN (.tuple #[.string mm,.int .i64 me]) W) by rw [← hmm,← hme];exact Seg.In p.mem xb mb W (by omega) hmz hb0 hb1)
 have hW:mH k p (⟨xn,(j:Int),xb,xc⟩:Call)=if ee ≠ 0 then ⟨k,0,6⟩ else if xc<mb.size then ⟨k,0,4⟩ else if me ≠ 0 then ⟨k,0,me⟩ else ⟨{k with box:=k.box.set j (qE c z.b),p:=put k.p {p with mem:=mm}},(mb.size:Int) % 4294967296,0⟩:=by
  rw [mH];simp only [Int.toNat_natCast];rw [hc,hzb];dsimp only;rw [← hme,← hmm,← hee,← hmb];unfold peek;cases z.b.l <;> rfl
 have HW:=hU hW;clear hW;have HPT:=hU (fun W (h:lG W z)=> show Calls prog 221 #[.agg c.cells,.agg (aX z)] W (fun e w'=> ∃ yb:fY,e=.returned (.tuple #[.agg (aX yb),.agg #[.int .u64 mt,.string mb],.int .i64 ee])∧yb.b=qE c z.b∧lG w' yb∧(∀ g,gL (.slice z.a z.b.l.length z.c) z.b.l.length g→gL (.slice yb.a yb.b.l.length yb.c) yb.b.l.length g)∧Below W.heap.size W w') by rw [← hmt,← hmb,← hee];exact qVi c z W h);clear hmt hmb hee hmm hme hzd hzb;obtain ⟨pa,pc,hpa,hpc0,hpc1,h0|⟨gi,oi,ci,ha,hgi,hii⟩⟩:=L0.out.ins_
 · rw [h0] at hi1;exact absurd (Nat.zero_le _) hi1
 rw [HIA.out] at hpa;injection hpa with hpa hpn hpc
 clear hpn;subst hpa hpc;subst ha;have HCI:=hU (hii _ _ hc);clear hii hc hpc0 hpc1;obtain ⟨pa,pc,hpa,hpc0,hpc1,h0|⟨gx,ox,cx,ha,hgx,hxx⟩⟩:=L0.out.bx
 · rw [h0] at hi2;exact absurd (Nat.zero_le _) hi2
 rw [HBA.out] at hpa;injection hpa with hpa hpn hpc
 clear hpn;subst hpa hpc;subst ha;have HCX:=hU (hxx _ _ hz);clear hxx hz hpc0 hpc1;have I0:=hU hgi;clear hgi;have Q0:=hU hgx;clear hgx;have hjI:(j:Int)<(k.ins_.length:Int):=by omega
 have hjB:(j:Int)<(bs.length:Int):=by omega
 go_in
 repeat' (first
  |(rw [hW0];clear hW0)
  |go_values|go_skip|go_guarded|refine wg ?_|go_step|go_upon)
 refine wp_region_noPanic ?_;refine go0 (S:=fun W=> (W.cell? ⟨b,10,none⟩=some (.slice (some ⟨gi,oi,none⟩) k.ins_.length ic))∧(W.cell? ⟨b,11,none⟩=some (.slice (some ⟨gx,ox,none⟩) bs.length bc))∧(W.cell? ⟨w.heap.size + 1,1,none⟩=some (.int .u32 (j:Int)))) [] (⟨((aC K0.out 10).trans (congrArg some HIA.out)),((aC K0.out 11).trans (congrArg some HBA.out)),aC X0.out 1⟩) fun hS=> ?_;obtain ⟨W1,hWd⟩:=exW W0.drew;have K1:=dB hWd K0;obtain ⟨P1,X1,I1,Q1,E1,L1⟩:=n6 (dW hWd) P0 X0 I0 Q0 E0 L0;rw [hWd] at hS ⊢;clear hWd;clear K0 P0 X0 I0 Q0 E0 L0;refine ts [.p 0,.l 1,.p 2,.p 3,.p 4,.p 5,.p 6,.l 7,.p 8,.p 9,.p 10] ?_;try rw [show decide (k.ins_.length≤j)=false from decide_eq_false hi1]
 refine ts [.p 11,.p 12,.l 13,.p 14,.p 15,.p 16,.p 17,.p 18,.l 19,.p 20,.p 21,.p 22,.p 23] ?_;refine aZ (by kernel_rfl) (NoPanic.normal ?_) _;try clear hS
 try rw [show decide (bs.length≤j)=false from decide_eq_false hi2]
 refine sg ?_;intros;refine wp_region_noPanic ?_;refine go0 (S:=fun W=> (W.cell? ⟨b,10,none⟩=some (.slice (some ⟨gi,oi,none⟩) k.ins_.length ic))∧(W.cell? ⟨b,11,none⟩=some (.slice (some ⟨gx,ox,none⟩) bs.length bc))∧(W.cell? ⟨w.heap.size + 1,1,none⟩=some (.int .u32 (j:Int)))∧(W.heap[gi]? =some (.cells ci 102 (0,0)))∧(W.heap[gx]? =some (.cells cx 145 (0,0)))) [25,26] (⟨((aC K1.out 10).trans (congrArg some HIA.out)),((aC K1.out 11).trans (congrArg some HBA.out)),aC X1.out 1,I1.out,Q1.out⟩) fun hS=> ?_;obtain ⟨W2,hWd⟩:=exW W1.drew;have K2:=dB hWd K1;obtain ⟨P2,X2,I2,Q2,E2,L2⟩:=n6 (dW hWd) P1 X1 I1 Q1 E1 L1;rw [hWd] at hS ⊢;clear hWd;clear K1 P1 X1 I1 Q1 E1 L1;refine ts [.p 0,.p 1,.p 2,.p 3,.l 4,.p 5,.l 6,.p 7] ?_;refine tv 8 (.agg c.cells) (fun W hSW=> aR rfl rfl (cA (o:=oi + j * 5) tR rfl (fun _ u hu=> (aC hSW.2.2.2.1 _).trans (HCI.out _ u hu)))) ?_;(try simp only [aF])
 refine ts [.p 9,.p 10,.p 11,.p 12,.l 13,.p 14,.l 15,.p 16] ?_;refine tv 17 (.agg (aX z)) (fun W hSW=> aR rfl rfl (cA (o:=ox + j * 2) lB rfl (fun _ u hu=> (aC hSW.2.2.2.2 _).trans (HCX.out _ u hu)))) ?_;(try simp only [aF])
 clear hS;revert K2 P2 X2 I2 Q2 E2 L2;apply KR.qPi (F:=fun (abB:Nat) (abM:Nat) (yb:fY) (W5:World)=> Hid (W5.heap[abB]? =some (.cells #[.slice none 0 0,.int .i64 0] 145 (0,0)))∧Hid (W5.heap[gi]? =some (.cells ci 102 (0,0)))∧Hid (W5.heap[b]? =some (.cells (aJ y k) 104 (0,0)))∧Hid (W5.heap[abM]? =some (.cells #[.int .u64 0,.string ⟨#[]⟩] 196 (0,0)))∧Hid (W5.heap[w.heap.size]? =some (.cells p.cells 121 (0,0)))∧Hid (W5.heap[gx]? =some (.cells cx 145 (0,0)))∧Hid (W5.heap[(w.heap.size + 1)]? =some (.cells (⟨xn,(j:Int),xb,xc⟩:Call).cells 119 (0,0)))∧Hid (KR.Kept b w W5)∧Hid (aH W5 y bs k)∧Hid (Sl 196 2 Msg.cells W5 (.slice yb.a yb.b.l.length yb.c) yb.b.l)∧(w.heap.size≤abB)∧(w.heap.size≤abM)∧(b<abB)∧(b<abM)∧(gx<abB)∧(w.heap.size<abB)∧(w.heap.size<abM)∧(w.heap.size + 1<abB)∧(w.heap.size + 1<abM)∧(gL y.bx bs.length abB)∧(∀ u ∈ bs,gL (.slice u.a u.b.l.length u.c) u.b.l.length abM)∧(gL (.slice yb.a yb.b.l.length yb.c) yb.b.l.length abM)∧(Hid (yb.b=qE c z.b)))
 case h2=>
  intro hj K2 P2 X2 I2 Q2 E2 L2;refine qXq (i:=18) (j:=23) (l:=24) (by kernel_rfl) rfl rfl rfl (fun K hK=> ?_) (fun K hK=> ?_) (fun K hK=> ?_)
  · skip
    refine want rfl ?_;go_simp;refine (HPT.out _ (L2.out.ok z hzm)).mono ?_;rintro er W3 ⟨yb,rfl,hyb,hbo,hyo,hb⟩;have K3:=nB hb K2;obtain ⟨P3,X3,I3,Q3,E3,L3⟩:=n6 hb P2 X2 I2 Q2 E2 L2;clear K2 P2 X2 I2 Q2 E2 L2;have BO3:=hU hbo;clear hb;dsimp only;try clear hS
    refine nx hK (⟨((aC K3.out 10).trans (congrArg some HIA.out)),((aC K3.out 11).trans (congrArg some HBA.out)),aC X3.out 1,I3.out,Q3.out⟩) fun hS=> ?_;clear hK K;(try simp only [aF])
    refine ts [.p 19,.p 20,.p 21,.p 22] ?_;have HYB:=hU hyb;clear hyb hyo hbo;refine oT (i:=23) (j:=24) (by kernel_rfl) rfl rfl (fun K hK=> ?_) (fun K hK=> ?_)
    · skip
      obtain ⟨abB,hab,hab1B⟩:=nb0 E3;have habKB:=nlt K3 hab;have habPB:=nlt P3 hab;have habXB:=nlt X3 hab;have habIB:=nlt I3 hab;have habQB:=nlt Q3 hab;have hoffB:=L3.out.bx.dJ (Nat.le_of_eq hab);go_simp;obtain ⟨W4,hWn,hba,B4⟩:=nb1 (.cells #[.slice none 0 0,.int .i64 0] 145) hab;rw [hWn];clear hWn;have K4:=nB hba K3;obtain ⟨P4,X4,I4,Q4,E4,L4⟩:=n6 hba P3 X3 I3 Q3 E3 L3;have BO4:=hU (BO3.out.below hba);clear K3 P3 X3 I3 Q3 E3 L3 BO3;clear hba;try rw [hab]
      clear hab;try clear hS
      refine nx hK (⟨((aC K4.out 10).trans (congrArg some HIA.out)),((aC K4.out 11).trans (congrArg some HBA.out)),aC X4.out 1,I4.out,Q4.out⟩) fun hS=> ?_;clear hK K;(try simp only [aF])
      refine ro 24 fun K hK=> ?_;obtain ⟨abM,hab,hab1M⟩:=nb0 E4;have habKM:=nlt K4 hab;have habPM:=nlt P4 hab;have habXM:=nlt X4 hab;have habIM:=nlt I4 hab;have habQM:=nlt Q4 hab;have habBM:=nlt B4 hab;have hoffXs:∀ u ∈ bs,gL (.slice u.a u.b.l.length u.c) u.b.l.length abM:=fun u hu=> (L4.out.ok u hu).dJ (Nat.le_of_eq hab);have hoffY:=BO4.out.dJ (Nat.le_of_eq hab);go_simp;obtain ⟨W5,hWn,hba,M5⟩:=nb1 (.cells #[.int .u64 0,.string ⟨#[]⟩] 196) hab;rw [hWn];clear hWn;have K5:=nB hba K4;have P5:=nB hba P4;obtain ⟨X5,I5,Q5,B5,E5,L5⟩:=n6 hba X4 I4 Q4 B4 E4 L4;have BO5:=hU (BO4.out.below hba);clear K4 P4 X4 I4 Q4 B4 E4 L4 BO4;clear hba;try rw [hab]
      clear hab;try clear hS
      refine nx hK (⟨((aC K5.out 10).trans (congrArg some HIA.out)),((aC K5.out 11).trans (congrArg some HBA.out)),aC X5.out 1,I5.out,Q5.out⟩) fun hS=> ?_;clear hK K;(try simp only [aF])
      exact hj abB abM yb W5 ⟨B5,I5,K5,M5,P5,Q5,X5,E5,L5,BO5,hab1B,hab1M,habKB,habKM,habQB,habPB,habPM,habXB,habXM,hoffB,hoffXs,hoffY,HYB⟩
    · skip
      obtain ⟨abM,hab,hab1M⟩:=nb0 E3;have habKM:=nlt K3 hab;have habPM:=nlt P3 hab;have habXM:=nlt X3 hab;have habIM:=nlt I3 hab;have habQM:=nlt Q3 hab;have hoffXs:∀ u ∈ bs,gL (.slice u.a u.b.l.length u.c) u.b.l.length abM:=fun u hu=> (L3.out.ok u hu).dJ (Nat.le_of_eq hab);have hoffY:=BO3.out.dJ (Nat.le_of_eq hab);go_simp;obtain ⟨W4,hWn,hba,M4⟩:=nb1 (.cells #[.int .u64 0,.string ⟨#[]⟩] 196) hab;rw [hWn];clear hWn;have K4:=nB hba K3;obtain ⟨P4,X4,I4,Q4,E4,L4⟩:=n6 hba P3 X3 I3 Q3 E3 L3;have BO4:=hU (BO3.out.below hba);clear K3 P3 X3 I3 Q3 E3 L3 BO3;clear hba;try rw [hab]
      clear hab;try clear hS
      refine nx hK (⟨((aC K4.out 10).trans (congrArg some HIA.out)),((aC K4.out 11).trans (congrArg some HBA.out)),aC X4.out 1,I4.out,Q4.out⟩) fun hS=> ?_;clear hK K;(try simp only [aF])
      refine ro 23 fun K hK=> ?_;obtain ⟨abB,hab,hab1B⟩:=nb0 E4;have habKB:=nlt K4 hab;have habPB:=nlt P4 hab;have habXB:=nlt X4 hab;have habIB:=nlt I4 hab;have habQB:=nlt Q4 hab;have habMB:=nlt M4 hab;have hoffB:=L4.out.bx.dJ (Nat.le_of_eq hab);go_simp;obtain ⟨W5,hWn,hba,B5⟩:=nb1 (.cells #[.slice none 0 0,.int .i64 0] 145) hab;rw [hWn];clear hWn;have K5:=nB hba K4;have P5:=nB hba P4;obtain ⟨X5,I5,Q5,M5,E5,L5⟩:=n6 hba X4 I4 Q4 M4 E4 L4;have BO5:=hU (BO4.out.below hba);clear K4 P4 X4 I4 Q4 M4 E4 L4 BO4;clear hba;try rw [hab]
      clear hab;try clear hS
      refine nx hK (⟨((aC K5.out 10).trans (congrArg some HIA.out)),((aC K5.out 11).trans (congrArg some HBA.out)),aC X5.out 1,I5.out,Q5.out⟩) fun hS=> ?_;clear hK K;(try simp only [aF])
      exact hj abB abM yb W5 ⟨B5,I5,K5,M5,P5,Q5,X5,E5,L5,BO5,hab1B,hab1M,habKB,habKM,habQB,habPB,habPM,habXB,habXM,hoffB,hoffXs,hoffY,HYB⟩
  · skip
    obtain ⟨abB,hab,hab1B⟩:=nb0 E2;have habKB:=nlt K2 hab;have habPB:=nlt P2 hab;have habXB:=nlt X2 hab;have habIB:=nlt I2 hab;have habQB:=nlt Q2 hab;have hoffB:=L2.out.bx.dJ (Nat.le_of_eq hab);go_simp;obtain ⟨W3,hWn,hba,B3⟩:=nb1 (.cells #[.slice none 0 0,.int .i64 0] 145) hab;rw [hWn];clear hWn;have K3:=nB hba K2;obtain ⟨P3,X3,I3,Q3,E3,L3⟩:=n6 hba P2 X2 I2 Q2 E2 L2;clear K2 P2 X2 I2 Q2 E2 L2;clear hba;try rw [hab]
    clear hab;try clear hS
    refine nx hK (⟨((aC K3.out 10).trans (congrArg some HIA.out)),((aC K3.out 11).trans (congrArg some HBA.out)),aC X3.out 1,I3.out,Q3.out⟩) fun hS=> ?_;clear hK K;(try simp only [aF])
    refine oT (i:=18) (j:=24) (by kernel_rfl) rfl rfl (fun K hK=> ?_) (fun K hK=> ?_)
    · skip
      refine want rfl ?_;go_simp;refine (HPT.out _ (L3.out.ok z hzm)).mono ?_;rintro er W4 ⟨yb,rfl,hyb,hbo,hyo,hb⟩;have K4:=nB hb K3;have P4:=nB hb P3;obtain ⟨X4,I4,Q4,B4,E4,L4⟩:=n6 hb X3 I3 Q3 B3 E3 L3;clear K3 P3 X3 I3 Q3 B3 E3 L3;have BO4:=hU hbo;clear hb;dsimp only;try clear hS
      refine nx hK (⟨((aC K4.out 10).trans (congrArg some HIA.out)),((aC K4.out 11).trans (congrArg some HBA.out)),aC X4.out 1,I4.out,Q4.out⟩) fun hS=> ?_;clear hK K;(try simp only [aF])
      refine ts [.p 19,.p 20,.p 21,.p 22] ?_;have HYB:=hU hyb;clear hyb hyo hbo;refine ro 24 fun K hK=> ?_;obtain ⟨abM,hab,hab1M⟩:=nb0 E4;have habKM:=nlt K4 hab;have habPM:=nlt P4 hab;have habXM:=nlt X4 hab;have habIM:=nlt I4 hab;have habQM:=nlt Q4 hab;have habBM:=nlt B4 hab;have hoffXs:∀ u ∈ bs,gL (.slice u.a u.b.l.length u.c) u.b.l.length abM:=fun u hu=> (L4.out.ok u hu).dJ (Nat.le_of_eq hab);have hoffY:=BO4.out.dJ (Nat.le_of_eq hab);go_simp;obtain ⟨W5,hWn,hba,M5⟩:=nb1 (.cells #[.int .u64 0,.string ⟨#[]⟩] 196) hab;rw [hWn];clear hWn;have K5:=nB hba K4;have P5:=nB hba P4;obtain ⟨X5,I5,Q5,B5,E5,L5⟩:=n6 hba X4 I4 Q4 B4 E4 L4;have BO5:=hU (BO4.out.below hba);clear K4 P4 X4 I4 Q4 B4 E4 L4 BO4;clear hba;try rw [hab]
      clear hab;try clear hS
      refine nx hK (⟨((aC K5.out 10).trans (congrArg some HIA.out)),((aC K5.out 11).trans (congrArg some HBA.out)),aC X5.out 1,I5.out,Q5.out⟩) fun hS=> ?_;clear hK K;(try simp only [aF])
      exact hj abB abM yb W5 ⟨B5,I5,K5,M5,P5,Q5,X5,E5,L5,BO5,hab1B,hab1M,habKB,habKM,habQB,habPB,habPM,habXB,habXM,hoffB,hoffXs,hoffY,HYB⟩
    · skip
      obtain ⟨abM,hab,hab1M⟩:=nb0 E3;have habKM:=nlt K3 hab;have habPM:=nlt P3 hab;have habXM:=nlt X3 hab;have habIM:=nlt I3 hab;have habQM:=nlt Q3 hab;have habBM:=nlt B3 hab;have hoffXs:∀ u ∈ bs,gL (.slice u.a u.b.l.length u.c) u.b.l.length abM:=fun u hu=> (L3.out.ok u hu).dJ (Nat.le_of_eq hab);go_simp;obtain ⟨W4,hWn,hba,M4⟩:=nb1 (.cells #[.int .u64 0,.string ⟨#[]⟩] 196) hab;rw [hWn];clear hWn;have K4:=nB hba K3;have P4:=nB hba P3;obtain ⟨X4,I4,Q4,B4,E4,L4⟩:=n6 hba X3 I3 Q3 B3 E3 L3;clear K3 P3 X3 I3 Q3 B3 E3 L3;clear hba;try rw [hab]
      clear hab;try clear hS
      refine nx hK (⟨((aC K4.out 10).trans (congrArg some HIA.out)),((aC K4.out 11).trans (congrArg some HBA.out)),aC X4.out 1,I4.out,Q4.out⟩) fun hS=> ?_;clear hK K;(try simp only [aF])
      refine ro 18 fun K hK=> ?_;refine want rfl ?_;go_simp;refine (HPT.out _ (L4.out.ok z hzm)).mono ?_;rintro er W5 ⟨yb,rfl,hyb,hbo,hyo,hb⟩;have K5:=nB hb K4;have P5:=nB hb P4;have X5:=nB hb X4;obtain ⟨I5,Q5,B5,M5,E5,L5⟩:=n6 hb I4 Q4 B4 M4 E4 L4;clear K4 P4 X4 I4 Q4 B4 M4 E4 L4;have BO5:=hU hbo;clear hb;dsimp only;try clear hS
      refine nx hK (⟨((aC K5.out 10).trans (congrArg some HIA.out)),((aC K5.out 11).trans (congrArg some HBA.out)),aC X5.out 1,I5.out,Q5.out⟩) fun hS=> ?_;clear hK K;(try simp only [aF])
      refine ts [.p 19,.p 20,.p 21,.p 22] ?_;have HYB:=hU hyb;have hoffY:=hyo _ (hoffXs z hzm);clear hyb hyo hbo;exact hj abB abM yb W5 ⟨B5,I5,K5,M5,P5,Q5,X5,E5,L5,BO5,hab1B,hab1M,habKB,habKM,habQB,habPB,habPM,habXB,habXM,hoffB,hoffXs,hoffY,HYB⟩
  · skip
    obtain ⟨abM,hab,hab1M⟩:=nb0 E2;have habKM:=nlt K2 hab;have habPM:=nlt P2 hab;have habXM:=nlt X2 hab;have habIM:=nlt I2 hab;have habQM:=nlt Q2 hab;have hoffXs:∀ u ∈ bs,gL (.slice u.a u.b.l.length u.c) u.b.l.length abM:=fun u hu=> (L2.out.ok u hu).dJ (Nat.le_of_eq hab);go_simp;obtain ⟨W3,hWn,hba,M3⟩:=nb1 (.cells #[.int .u64 0,.string ⟨#[]⟩] 196) hab;rw [hWn];clear hWn;have K3:=nB hba K2;obtain ⟨P3,X3,I3,Q3,E3,L3⟩:=n6 hba P2 X2 I2 Q2 E2 L2;clear K2 P2 X2 I2 Q2 E2 L2;clear hba;try rw [hab]
    clear hab;try clear hS
    refine nx hK (⟨((aC K3.out 10).trans (congrArg some HIA.out)),((aC K3.out 11).trans (congrArg some HBA.out)),aC X3.out 1,I3.out,Q3.out⟩) fun hS=> ?_;clear hK K;(try simp only [aF])
    refine oT (i:=18) (j:=23) (by kernel_rfl) rfl rfl (fun K hK=> ?_) (fun K hK=> ?_)
    · skip
      refine want rfl ?_;go_simp;refine (HPT.out _ (L3.out.ok z hzm)).mono ?_;rintro er W4 ⟨yb,rfl,hyb,hbo,hyo,hb⟩;have K4:=nB hb K3;have P4:=nB hb P3;obtain ⟨X4,I4,Q4,M4,E4,L4⟩:=n6 hb X3 I3 Q3 M3 E3 L3;clear K3 P3 X3 I3 Q3 M3 E3 L3;have BO4:=hU hbo;clear hb;dsimp only;try clear hS
      refine nx hK (⟨((aC K4.out 10).trans (congrArg some HIA.out)),((aC K4.out 11).trans (congrArg some HBA.out)),aC X4.out 1,I4.out,Q4.out⟩) fun hS=> ?_;clear hK K;(try simp only [aF])
      refine ts [.p 19,.p 20,.p 21,.p 22] ?_;have HYB:=hU hyb;have hoffY:=hyo _ (hoffXs z hzm);clear hyb hyo hbo;refine ro 23 fun K hK=> ?_;obtain ⟨abB,hab,hab1B⟩:=nb0 E4;have habKB:=nlt K4 hab;have habPB:=nlt P4 hab;have habXB:=nlt X4 hab;have habIB:=nlt I4 hab;have habQB:=nlt Q4 hab;have habMB:=nlt M4 hab;have hoffB:=L4.out.bx.dJ (Nat.le_of_eq hab);go_simp;obtain ⟨W5,hWn,hba,B5⟩:=nb1 (.cells #[.slice none 0 0,.int .i64 0] 145) hab;rw [hWn];clear hWn;have K5:=nB hba K4;have P5:=nB hba P4;obtain ⟨X5,I5,Q5,M5,E5,L5⟩:=n6 hba X4 I4 Q4 M4 E4 L4;have BO5:=hU (BO4.out.below hba);clear K4 P4 X4 I4 Q4 M4 E4 L4 BO4;clear hba;try rw [hab]
      clear hab;try clear hS
      refine nx hK (⟨((aC K5.out 10).trans (congrArg some HIA.out)),((aC K5.out 11).trans (congrArg some HBA.out)),aC X5.out 1,I5.out,Q5.out⟩) fun hS=> ?_;clear hK K;(try simp only [aF])
      exact hj abB abM yb W5 ⟨B5,I5,K5,M5,P5,Q5,X5,E5,L5,BO5,hab1B,hab1M,habKB,habKM,habQB,habPB,habPM,habXB,habXM,hoffB,hoffXs,hoffY,HYB⟩
    · skip
      obtain ⟨abB,hab,hab1B⟩:=nb0 E3;have habKB:=nlt K3 hab;have habPB:=nlt P3 hab;have habXB:=nlt X3 hab;have habIB:=nlt I3 hab;have habQB:=nlt Q3 hab;have habMB:=nlt M3 hab;have hoffB:=L3.out.bx.dJ (Nat.le_of_eq hab);go_simp;obtain ⟨W4,hWn,hba,B4⟩:=nb1 (.cells #[.slice none 0 0,.int .i64 0] 145) hab;rw [hWn];clear hWn;have K4:=nB hba K3;have P4:=nB hba P3;obtain ⟨X4,I4,Q4,M4,E4,L4⟩:=n6 hba X3 I3 Q3 M3 E3 L3;clear K3 P3 X3 I3 Q3 M3 E3 L3;clear hba;try rw [hab]
      clear hab;try clear hS
      refine nx hK (⟨((aC K4.out 10).trans (congrArg some HIA.out)),((aC K4.out 11).trans (congrArg some HBA.out)),aC X4.out 1,I4.out,Q4.out⟩) fun hS=> ?_;clear hK K;(try simp only [aF])
      refine ro 18 fun K hK=> ?_;refine want rfl ?_;go_simp;refine (HPT.out _ (L4.out.ok z hzm)).mono ?_;rintro er W5 ⟨yb,rfl,hyb,hbo,hyo,hb⟩;have K5:=nB hb K4;have P5:=nB hb P4;have X5:=nB hb X4;obtain ⟨I5,Q5,M5,B5,E5,L5⟩:=n6 hb I4 Q4 M4 B4 E4 L4;clear K4 P4 X4 I4 Q4 M4 B4 E4 L4;have BO5:=hU hbo;clear hb;dsimp only;try clear hS
      refine nx hK (⟨((aC K5.out 10).trans (congrArg some HIA.out)),((aC K5.out 11).trans (congrArg some HBA.out)),aC X5.out 1,I5.out,Q5.out⟩) fun hS=> ?_;clear hK K;(try simp only [aF])
      refine ts [.p 19,.p 20,.p 21,.p 22] ?_;have HYB:=hU hyb;have hoffY:=hyo _ (hoffXs z hzm);clear hyb hyo hbo;exact hj abB abM yb W5 ⟨B5,I5,K5,M5,P5,Q5,X5,E5,L5,BO5,hab1B,hab1M,habKB,habKM,habQB,habPB,habPM,habXB,habXM,hoffB,hoffXs,hoffY,HYB⟩
 rintro abB abM yb W5 ⟨B5,I5,K5,M5,P5,Q5,X5,E5,L5,BO5,hab1B,hab1M,habKB,habKM,habQB,habPB,habPM,habXB,habXM,hoffB,hoffXs,hoffY,HYB⟩;have hS:(fun W:World=> (W.cell? ⟨b,10,none⟩=some (.slice (some ⟨gi,oi,none⟩) k.ins_.length ic))∧(W.cell? ⟨b,11,none⟩=some (.slice (some ⟨gx,ox,none⟩) bs.length bc))∧(W.cell? ⟨w.heap.size + 1,1,none⟩=some (.int .u32 (j:Int)))∧(W.heap[gi]? =some (.cells ci 102 (0,0)))∧(W.heap[gx]? =some (.cells cx 145 (0,0)))) W5:=⟨((aC K5.out 10).trans (congrArg some HIA.out)),((aC K5.out 11).trans (congrArg some HBA.out)),aC X5.out 1,I5.out,Q5.out⟩
 refine ro 25 fun K hK=> ?_;refine want rfl ?_;refine cL (v:=.agg (aX yb)) (off:=0) (new:=(aX yb)) rfl rfl rfl lB.size B5.out rfl (show 0 + 2≤2 by decide) (qEi yb) rfl ?_;intro W6 hp;have E6:=pE hp E5;have L6:Hid (aH W6 y bs k):=hU (L5.out.qPu hoffB B5.out hp);have B6:=pA hp;have K6:=pT hp B5 K5;have P6:=pT hp B5 P5;have X6:=pT hp B5 X5;have I6:=pT hp B5 I5;have Q6:=pO hp Q5;have M6:=pT hp B5 M5;have BO6:=hU (BO5.out.put B5.out hp (by decide));clear hp;clear K5 P5 X5 I5 Q5 B5 M5 E5 L5 BO5;refine nt hK ?_;clear hK K;try clear hS
 (try simp only [aF])
 refine ro 26 fun K hK=> ?_;refine want rfl ?_;refine cL (v:=.agg #[.int .u64 mt,.string mb]) (off:=0) (new:=#[.int .u64 mt,.string mb]) rfl rfl rfl lI.size M6.out rfl (show 0 + 2≤2 by decide) (by intro u hu;simp [Value.cells] at hu;rcases hu with rfl|rfl <;> rfl) rfl ?_;intro W7 hp;have E7:=pE hp E6;have L7:Hid (aH W7 y bs k):=hU (L6.out.qXf hoffXs M6.out hp);have M7:=pA hp;have K7:=pT hp M6 K6;have P7:=pT hp M6 P6;have X7:=pT hp M6 X6;have I7:=pT hp M6 I6;have Q7:=pT hp M6 Q6;have B7:=pT hp M6 B6;have BO7:=hU (BO6.out.dY hoffY hp);clear hp;clear K6 P6 X6 I6 Q6 B6 M6 E6 L6 BO6;refine nt hK ?_;clear hK K;try clear hS
 (try simp only [aF])
 refine tp 27 ?_;try simp only [aF]
 refine aZ (by kernel_rfl) (NoPanic.normal ?_) _;try clear hS
 clear I7;clear Q7;by_cases hz:ee=0
 rotate_left
 · have HW1:=HW.out;rw [if_pos hz] at HW1;have HW2:=hU HW1;have hzb:(ee !=0)=true:=by simp [hz]
   clear HW1 HW;refine sg ?_;intros;go_ret2
   rw [HW2.out];exact ⟨rfl,⟨_,_,K7.out,L7.out⟩,E7.out⟩
 subst hz;have HW1:=HW.out;rw [if_neg (by simp)] at HW1;clear HW;have kM1:W7.cell? ⟨abM,1,none⟩=some (.string mb):=aC M7.out 1;have kC:W7.cell? ⟨w.heap.size + 1,3,none⟩=some (.int .u32 xc):=aC X7.out 3;have hwm:IntKind.u64.wrap (mb.size:Int)=(mb.size:Int):=by rw [IntKind.wrap_u64];omega
 have hwc:IntKind.u64.wrap xc=xc:=by rw [IntKind.wrap_u64];omega
 by_cases hbig:xc<(mb.size:Int)
 · rw [if_pos hbig] at HW1;have HW2:=hU HW1;have hbd2:=decide_eq_true hbig;clear HW1 hbig;refine sg ?_;intros;go_ret2
   rw [HW2.out];exact ⟨rfl,⟨_,_,K7.out,L7.out⟩,E7.out⟩
 rw [if_neg hbig] at HW1;have hbd2:=decide_eq_false hbig;have hms:(mb.size:Int)<4294967296:=by omega
 clear hbig;have kM:W7.cell? ⟨w.heap.size,12,none⟩=some (.string p.mem):=aC P7.out 12;have kB:W7.cell? ⟨w.heap.size + 1,2,none⟩=some (.int .u32 xb):=aC X7.out 2;refine sg ?_;intros;refine (HIN.out _).mono ?_;rintro er W8 ⟨rfl,hb⟩;have K8:=nB hb K7;obtain ⟨P8,X8,B8,M8,E8,L8⟩:=n6 hb P7 X7 B7 M7 E7 L7;have BO8:=hU (BO7.out.below hb);clear K7 P7 X7 B7 M7 E7 L7 BO7;clear hb kM kB kC kM1 hbd2;dsimp only;by_cases hz:me=0
 rotate_left
 · rw [if_pos hz] at HW1;have HW2:=hU HW1;have hzb:(me !=0)=true:=by simp [hz]
   clear HW1;refine sg ?_;intros;go_ret2
   rw [HW2.out];exact ⟨rfl,⟨_,_,K8.out,L8.out⟩,E8.out⟩
 subst hz;rw [if_neg (by simp)] at HW1;have HW2:=hU HW1;clear HW1
 repeat' (first
  |(refine aP (t:=9) (v:=.string mm) (off:=12) (new:=({p with mem:=mm}:Proc).cells) rfl rfl rfl rfl pI P8.out rfl rfl (show 12 + 1≤26 by decide) rfl ?_;intro W9 hp
    have E9:=pE hp E8;have L9:Hid (aH W9 y bs k):=hU (L8.out.dG (L8.out.p.dY (hl.p.dJ (Nat.le_refl _)) hp) P8.out hp);have P9:=pA hp;have K9:=pT hp P8 K8;have X9:=pT hp P8 X8;have B9:=pT hp P8 B8;have M9:=pT hp P8 M8;have BO9:=hU (BO8.out.put P8.out hp (by decide));clear hp;clear K8 P8 X8 B8 M8 E8 L8 BO8;have kB4:W9.cell? ⟨b,11,none⟩=some y.bx:=aC K9.out 11)
  |go_values|go_skip|go_guarded|refine wg ?_|go_step|go_upon)
 have hG6:=hlt B9.out;have hG7:=hlt M9.out;have hE6:=E9.out.size;refine (qFq y.bx bs _ L9.out.bx (by omega)).mono ?_;rintro er W10 ⟨vc,rfl,ho,hb⟩;have K10:=nB hb K9;obtain ⟨P10,X10,B10,M10,E10,L10⟩:=n6 hb P9 X9 B9 M9 E9 L9;have BO10:=hU (BO9.out.below hb);clear K9 P9 X9 B9 M9 E9 L9 BO9;clear hb kB4;have hne:bs ≠ []:=fun h=> by rw [h] at hi2;exact hi2 (Nat.zero_le _)
 obtain ⟨gc,cap,cur2,rfl,hB,hrow⟩:=Own.row ho hne;clear ho hne;dsimp only;have hrc:=hrow.2;have hcap:=hrc.1;have hcsz:=hrc.2.2.1;have C10:=hU hrow.1;clear hrow;have hcs:∀ W:World,W.heap[gc]? =some (.cells cur2 145 (0,0))→SlBx W (.slice (some ⟨gc,0,none⟩) bs.length cap) bs:=fun W h=> KR.Own.sl qV (Row.own qV (cap:=cap) (cur:=cur2) ⟨h,hrc⟩ (Nat.zero_le gc))
 repeat' (first
  |(refine aP (t:=37) (v:=(.slice (some ⟨gc,0,none⟩) bs.length cap)) (off:=11) (new:=aJ {y with bx:=(.slice (some ⟨gc,0,none⟩) bs.length cap)} k) rfl rfl rfl rfl qEg K10.out (hcs _ C10.out).jF (hcs _ C10.out).jW (show 11 + 1≤17 by decide) rfl ?_;intro W11 hp
    have L11:Hid (aH W11 {y with bx:=(.slice (some ⟨gc,0,none⟩) bs.length cap)} bs k):=hU ((L10.out.qQd (hcs _ C10.out)).put K10.out cI hp);have E11:=pK hp E10;have K11:Hid (W11.heap[b]? =some (.cells (aJ {y with bx:=(.slice (some ⟨gc,0,none⟩) bs.length cap)} k) 104 (0,0))):=pA hp;have P11:=pT hp K10 P10;have X11:=pT hp K10 X10;have B11:=pT hp K10 B10;have M11:=pT hp K10 M10;have C11:=pT hp K10 C10;have BO11:=hU (BO10.out.put K10.out hp (by decide));clear hp;clear K10 P10 X10 B10 M10 C10 E10 L10 BO10)
  |go_values|go_skip|go_guarded|refine wg ?_|go_step|go_upon)
 refine wp_region_noPanic ?_;refine go0 (S:=fun W=> (W.cell? ⟨b,11,none⟩=some (.slice (some ⟨gc,0,none⟩) bs.length cap))∧(W.cell? ⟨w.heap.size + 1,1,none⟩=some (.int .u32 (j:Int)))∧(W.heap[abB]? =some (.cells (aX yb) 145 (0,0)))) [9] (⟨aC K11.out 11,aC X11.out 1,B11.out⟩) fun hS=> ?_;obtain ⟨W12,hWd⟩:=exW W11.drew;have K12:=dB hWd K11;have P12:=dB hWd P11;obtain ⟨X12,B12,M12,C12,E12,L12⟩:=n6 (dW hWd) X11 B11 M11 C11 E11 L11;have BO12:=dS hWd BO11;rw [hWd] at hS ⊢;clear hWd;clear K11 P11 X11 B11 M11 C11 E11 L11 BO11;refine ts [.p 0,.p 1,.p 2,.p 3,.l 4,.p 5,.l 6] ?_;refine tv 7 (.agg (aX yb)) (fun W hSW=> aR rfl rfl (aD lB hSW.2.2 rfl)) ?_;(try simp only [aF])
 refine tp 8 ?_;try simp only [aF]
 refine ro 9 fun K hK=> ?_;refine want rfl ?_;refine cL (v:=.agg (aX yb)) (off:=j * 2) (new:=(aQ cur2 (j * 2) (aX yb))) rfl rfl rfl lB.size C12.out rfl (by first|omega|(simp only [Value.cells,qV];omega)|(rw [show (Value.agg (aX yb)).cells.size=2 from rfl];omega)) (qEi yb) rfl ?_;intro W13 hp;have E13:=pE hp E12;have L13:Hid (aH W13 {y with bx:=(.slice (some ⟨gc,0,none⟩) bs.length cap)} (bs.set j yb) {k with box:=k.box.set j yb.b}):=hU (L12.out.putRow (qAj C12.out hrc (by omega) hp) BO12.out C12.out hp);have C13:=pA hp;have K13:=pT hp C12 K12;have P13:=pT hp C12 P12;have X13:=pT hp C12 X12;have B13:=pO hp B12;have M13:=pT hp C12 M12;have BO13:=hU (BO12.out.put C12.out hp (by decide));clear hp;clear K12 P12 X12 B12 M12 C12 E12 L12 BO12;refine nt hK ?_;clear hK K;try clear hS
 (try simp only [aF])
 refine aZ (by kernel_rfl) (NoPanic.normal ?_) _;try clear hS
 clear BO13;refine sg ?_;intros;refine wp_region_noPanic ?_;refine go0 (S:=fun W=> (W.cell? ⟨b,0,none⟩=some y.p)∧(W.heap[w.heap.size]? =some (.cells ({p with mem:=mm}:Proc).cells 121 (0,0)))) [11] (⟨aC K13.out 0,P13.out⟩) fun hS=> ?_;obtain ⟨W14,hWd⟩:=exW W13.drew;have K14:=dB hWd K13;have P14:=dB hWd P13;obtain ⟨X14,B14,M14,C14,E14,L14⟩:=n6 (dW hWd) X13 B13 M13 C13 E13 L13;rw [hWd] at hS ⊢;clear hWd;clear K13 P13 X13 B13 M13 C13 E13 L13;refine ts [.p 0,.p 1,.p 2,.p 3,.p 4,.l 5] ?_;refine tv 6 (.agg ({p with mem:=mm}:Proc).cells) (fun W hSW=> aR rfl rfl (aD aL hSW.2 rfl)) ?_;(try simp only [aF])
 refine ro 7 fun K hK=> ?_;refine want rfl ?_;go_simp;refine (uV y.p k.p ({p with mem:=mm}:Proc) _ L14.out.p (by omega)).mono ?_;rintro er W15 ⟨v6,rfl,ho,hb⟩;have K15:=nB hb K14;have P15:=nB hb P14;obtain ⟨X15,B15,M15,C15,E15,L15⟩:=n6 hb X14 B14 M14 C14 E14 L14;clear K14 P14 X14 B14 M14 C14 E14 L14;clear hb;have SP15:=hU (KR.Own.sl eE ho);dsimp only;try clear hS
 refine nx hK (⟨aC K15.out 0,P15.out⟩) fun hS=> ?_;clear hK K;(try simp only [aF])
 refine ts [.p 8,.p 9,.p 10] ?_;refine ro 11 fun K hK=> ?_;refine kRs v6 0 {y with bx:=(.slice (some ⟨gc,0,none⟩) bs.length cap),p:=v6} {k with box:=k.box.set j yb.b,p:=put k.p ({p with mem:=mm}:Proc)} eY K15 E15 SP15 (L15.out.pZ SP15.out) fun W16 hp L16 E16 K16=> ?_;have P16:=pT hp K15 P15;have X16:=pT hp K15 X15;have B16:=pT hp K15 B15;have M16:=pT hp K15 M15;have C16:=pT hp K15 C15;have SP16:=hU (SP15.out.put K15.out hp (by decide));clear hp;clear K15 P15 X15 B15 M15 C15 E15 L15 SP15;refine nt hK ?_;clear hK K;try clear hS
 (try simp only [aF])
 refine aZ (by kernel_rfl) (NoPanic.normal ?_) _;try clear hS
 have kM1:W16.cell? ⟨abM,1,none⟩=some (.string mb):=aC M16.out 1;have HW3:=HW2.out;rw [← HYB.out] at HW3;have HW4:=hU HW3;clear HW3 HW2;refine sg ?_;intros;go_ret2
 rw [HW4.out];exact ⟨congrArg (fun z=> Ending.returned (.tuple #[.int .u32 z,.int .i64 0])) (Int.emod_eq_of_lt (a:=(mb.size:Int)) (b:=4294967296) (by omega) (by omega)).symm,⟨_,_,K16.out,L16.out⟩,E16.out⟩
