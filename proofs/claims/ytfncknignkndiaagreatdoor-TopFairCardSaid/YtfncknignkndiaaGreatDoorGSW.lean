/- kern.sends. Conditions: as many as Go can hold; words' numbers. Conditions: as told. -/
import Derived.Test.YtfncknignkndiaaGreatDoorGSeg
import Derived.Test.YtfncknignkndiaaGreatDoorKwFresh
import Derived.Test.YtfncknignkndiaaGreatDoorGEnd
set_option linter.unusedVariables false
set_option maxRecDepth 100000
set_option maxHeartbeats 8000000
set_option linter.unusedSimpArgs false
namespace Go.Proofs.YtfncknignkndiaaGreatDoor
open Tryz
open Go.RowKit KR RegT3
namespace Kn
theorem qJn (a:Option Addr) (n c:Nat) (w:World) (h:n≤c):Calls prog 220 #[.slice a n c] w (aN (.slice a n n) w):=by
 go_in;refine sg ?_;intros;go_ret;exact ⟨rfl,Below.refl _ _⟩
theorem qWg (b:Nat) (k:aI) (p:Proc) (x:Call) (w:World) (hk:cH w b k) (hsl:k.sent.length≤1000000) (hm:p.mem.size≤1000000) (ha0:0≤x.a) (ha1:x.a<4294967296) (hb0:0≤x.b) (hb1:x.b<4294967296) (hc0:0≤x.c) (hc1:x.c<4294967296):
 Calls prog 180 #[.pointer (some ⟨b,0,none⟩),.agg p.cells,.agg x.cells] w (eN b (.tuple #[.int .u32 (gZ k p x).v,.int .i64 (gZ k p x).e]) (gZ k p x).k w):=by
 obtain ⟨y,bs,hk0,hl⟩:=hk;have hbl:=hlt hk0;obtain ⟨xn,xa,xb,xc⟩:=x;dsimp only at ha0 ha1 hb0 hb1 hc0 hc1;obtain ⟨j,rfl⟩:∃ j:Nat,xa=(j:Int):=⟨xa.toNat,by omega⟩
 obtain ⟨oa,oc,hoa,hoc,_⟩:=hl.ou.shape;have HOA:=hU hoa;clear hoa;obtain ⟨W0,hW0,K0,P0,X0,E0,L0,hz0,hzK,hzP,hzX⟩:=st2 p.cells 121 (⟨xn,(j:Int),xb,xc⟩:Call).cells 119 hk0 hl;have hwj:IntKind.u64.wrap (j:Int)=(j:Int):=by rw [IntKind.wrap_u64];omega
 have hji:IntKind.i64.wrap (j:Int)=(j:Int):=by rw [IntKind.wrap_i64];omega
 have hj0:(0:Int)≤(j:Int):=by omega
 have hlu:IntKind.u64.wrap (k.outs.length:Int)=(k.outs.length:Int):=by rw [IntKind.wrap_u64];omega
 cases hj:k.outs[j]? with
 |none=>
  have hW:gZ k p (⟨xn,(j:Int),xb,xc⟩:Call)=⟨k,0,7⟩:=by rw [gZ];simp only [Int.toNat_natCast];rw [hj]
  have HW:=hU hW;clear hW;have hjl:k.outs.length≤j:=List.getElem?_eq_none_iff.1 hj;clear hj;have hjI:(k.outs.length:Int)≤(j:Int):=by omega
  go_in
  repeat' (first
   |(rw [hW0];clear hW0)
   |go_values|go_skip|go_guarded|refine wg ?_|go_step|go_upon)
  refine wp_region_noPanic ?_;refine go0 (S:=fun W=> (W.cell? ⟨b,9,none⟩=some (.slice oa k.outs.length oc))∧(W.cell? ⟨w.heap.size + 1,1,none⟩=some (.int .u32 (j:Int)))) [] (⟨((aC K0.out 9).trans (congrArg some HOA.out)),aC X0.out 1⟩) fun hS=> ?_;obtain ⟨W1,hWd⟩:=exW W0.drew;obtain ⟨K1,P1,X1,E1,L1⟩:=n5 (dW hWd) K0 P0 X0 E0 L0;rw [hWd] at hS ⊢;clear hWd;clear K0 P0 X0 E0 L0;refine ts [.p 0,.l 1,.p 2,.p 3,.p 4,.p 5,.p 6,.l 7,.p 8,.p 9,.p 10] ?_;refine aZ (by kernel_rfl) (NoPanic.normal ?_) _;try clear hS
  refine sg ?_;intros;go_ret2
  rw [HW.out];exact ⟨rfl,⟨_,_,K1.out,L1.out⟩,E1.out⟩
 |some c=>
  obtain ⟨so,hso⟩:∃ so,Sg.sY p.mem xb xc=so:=⟨_,rfl⟩
  obtain ⟨eo,heo⟩:∃ eo,Sg.uL p.mem xb xc=eo:=⟨_,rfl⟩
  have HSO:=hU (fun W=> show Calls prog 216 #[.string p.mem,.int .u32 xb,.int .u32 xc] W (Is (.tuple #[.string so,.int .i64 eo]) W) by rw [← hso,← heo];exact Seg.Out p.mem xb xc W (by omega) hb0 hb1 hc0 hc1)
  have hsz:so.size≤1000000:=by
   rw [← hso];unfold Sg.sY;split
   · rw [ByteArray.size_extract];omega
   · exact Nat.zero_le _
  have hW:gZ k p (⟨xn,(j:Int),xb,xc⟩:Call)=if eo ≠ 0 then ⟨k,0,eo⟩ else if c.size<so.size then ⟨k,0,4⟩ else ⟨{k with sent:=k.sent ++ [⟨(j:Int),so⟩]},0,0⟩:=by rw [gZ];simp only [Int.toNat_natCast];rw [hj];simp only [hso,heo]
  have HW:=hU hW;clear hW;have hjl:j<k.outs.length:=(List.getElem?_eq_some_iff.1 hj).1;have hjI:(j:Int)<(k.outs.length:Int):=by omega
  have hjN:¬ k.outs.length≤j:=by omega
  obtain ⟨pa,pc,hpa,hpc0,hpc1,h0|⟨gr,og,cur,ha,hgr,hi⟩⟩:=L0.out.ou
  · rw [h0] at hjl;exact absurd hjl (Nat.not_lt_zero _)
  rw [HOA.out] at hpa;injection hpa with hpa hpn hpc
  clear hpn;subst hpa hpc;subst ha;have hcz:=hi _ _ hj 3 (.int .i64 c.size) rfl;clear hj hi hso heo;have R0:=hU hgr;clear hgr;go_in
  repeat' (first
   |(rw [hW0];clear hW0)
   |go_values|go_skip|go_guarded|refine wg ?_|go_step|go_upon)
  refine wp_region_noPanic ?_;refine go0 (S:=fun W=> (W.cell? ⟨b,9,none⟩=some (.slice (some ⟨gr,og,none⟩) k.outs.length oc))∧(W.cell? ⟨w.heap.size + 1,1,none⟩=some (.int .u32 (j:Int)))) [] (⟨((aC K0.out 9).trans (congrArg some HOA.out)),aC X0.out 1⟩) fun hS=> ?_;obtain ⟨W1,hWd⟩:=exW W0.drew;obtain ⟨K1,P1,X1,R1,E1,L1⟩:=n6 (dW hWd) K0 P0 X0 R0 E0 L0;rw [hWd] at hS ⊢;clear hWd;clear K0 P0 X0 R0 E0 L0;refine ts [.p 0,.l 1,.p 2,.p 3,.p 4,.p 5,.p 6,.l 7,.p 8,.p 9,.p 10] ?_;refine aZ (by kernel_rfl) (NoPanic.normal ?_) _;try clear hS
  have kM:W1.cell? ⟨w.heap.size,12,none⟩=some (.string p.mem):=aC P1.out 12;have kB:W1.cell? ⟨w.heap.size + 1,2,none⟩=some (.int .u32 xb):=aC X1.out 2;have kC:W1.cell? ⟨w.heap.size + 1,3,none⟩=some (.int .u32 xc):=aC X1.out 3;refine sg ?_;intros;refine (HSO.out _).mono ?_;rintro er Wx ⟨rfl,rfl⟩;clear kM kB kC HSO;dsimp only;by_cases hz:eo=0
  rotate_left
  · have HW1:=HW.out;rw [if_pos hz] at HW1;have HW2:=hU HW1;have hzb:(eo !=0)=true:=by simp [hz]
    clear HW1 HW;refine sg ?_;intros;go_ret2
    rw [HW2.out];exact ⟨rfl,⟨_,_,K1.out,L1.out⟩,E1.out⟩
  subst hz;have HW1:=HW.out;rw [if_neg (by simp)] at HW1;clear HW;refine sg ?_;intros;refine wp_region_noPanic ?_;refine go0 (S:=fun W=> (W.cell? ⟨b,9,none⟩=some (.slice (some ⟨gr,og,none⟩) k.outs.length oc))∧(W.cell? ⟨w.heap.size + 1,1,none⟩=some (.int .u32 (j:Int)))∧(W.cell? ⟨gr,og + j * 5 + 3,none⟩=some (.int .i64 c.size))) [] (⟨((aC K1.out 9).trans (congrArg some HOA.out)),aC X1.out 1,((aC R1.out _).trans hcz)⟩) fun hS=> ?_;obtain ⟨W2,hWd⟩:=exW W1.drew;obtain ⟨K2,P2,X2,R2,E2,L2⟩:=n6 (dW hWd) K1 P1 X1 R1 E1 L1;rw [hWd] at hS ⊢;clear hWd;clear K1 P1 X1 R1 E1 L1;refine ts [.p 0,.p 1,.p 2,.p 3,.p 4,.p 5,.l 6,.p 7,.l 8,.p 9,.p 10,.l 11,.p 12,.p 13] ?_;refine aZ (by kernel_rfl) (NoPanic.normal ?_) _;try clear hS
  by_cases hsz4:c.size<(so.size:Int)
  · rw [if_pos hsz4] at HW1;have HW2:=hU HW1;rw [decide_eq_true hsz4];clear HW1 hsz4;refine sg ?_;intros;go_ret2
    rw [HW2.out];exact ⟨rfl,⟨_,_,K2.out,L2.out⟩,E2.out⟩
  rw [if_neg hsz4] at HW1;have HW2:=hU HW1;rw [decide_eq_false hsz4];clear HW1 hsz4;refine sg ?_;intros;obtain ⟨ta,tc,htr,htc,_⟩:=L2.out.se.shape;have HTR:=hU htr;clear htr;refine wp_region_noPanic ?_;refine go0 (S:=fun W=> (W.cell? ⟨b,14,none⟩=some (.slice ta k.sent.length tc))∧(W.cell? ⟨w.heap.size + 1,1,none⟩=some (.int .u32 (j:Int)))) [17] (⟨((aC K2.out 14).trans (congrArg some HTR.out)),aC X2.out 1⟩) fun hS=> ?_;obtain ⟨W3,hWd⟩:=exW W2.drew;obtain ⟨K3,P3,X3,R3,E3,L3⟩:=n6 (dW hWd) K2 P2 X2 R2 E2 L2;rw [hWd] at hS ⊢;clear hWd;clear K2 P2 X2 R2 E2 L2;refine ts [.p 0,.p 1,.p 2,.p 3,.p 4,.l 5,.p 7,.l 8,.p 9,.p 10,.p 11] ?_;refine oT (i:=6) (j:=12) (by kernel_rfl) rfl rfl (fun K hK=> ?_) (fun K hK=> ?_);refine want rfl ?_;go_simp;refine (qJn _ _ _ _ htc).mono ?_;rintro er W4 ⟨rfl,hb⟩;obtain ⟨K4,P4,X4,R4,E4,L4⟩:=n6 hb K3 P3 X3 R3 E3 L3;clear K3 P3 X3 R3 E3 L3;clear hb;dsimp only;try clear hS
  refine nx hK (⟨((aC K4.out 14).trans (congrArg some HTR.out)),aC X4.out 1⟩) fun hS=> ?_;clear hK K;(try simp only [aF])
  refine ro 12 fun K hK=> ?_;obtain ⟨abO,hab,hab1O⟩:=nb0 E4;have habKO:=nlt K4 hab;have habPO:=nlt P4 hab;have habXO:=nlt X4 hab;have habRO:=nlt R4 hab;go_simp;obtain ⟨W5,hWn,hba,O5⟩:=nb1 (.cells #[.int .i64 (j:Int),.string so] 194) hab;rw [hWn];clear hWn;obtain ⟨K5,P5,X5,R5,E5,L5⟩:=n6 hba K4 P4 X4 R4 E4 L4;clear K4 P4 X4 R4 E4 L4;clear hba;try rw [hab]
  clear hab;try clear hS
  refine nx hK (⟨((aC K5.out 14).trans (congrArg some HTR.out)),aC X5.out 1⟩) fun hS=> ?_;clear hK K;(try simp only [aF])
  rotate_left 1
  obtain ⟨abO,hab,hab1O⟩:=nb0 E3;have habKO:=nlt K3 hab;have habPO:=nlt P3 hab;have habXO:=nlt X3 hab;have habRO:=nlt R3 hab;go_simp;obtain ⟨W4,hWn,hba,O4⟩:=nb1 (.cells #[.int .i64 (j:Int),.string so] 194) hab;rw [hWn];clear hWn;obtain ⟨K4,P4,X4,R4,E4,L4⟩:=n6 hba K3 P3 X3 R3 E3 L3;clear K3 P3 X3 R3 E3 L3;clear hba;try rw [hab]
  clear hab;try clear hS
  refine nx hK (⟨((aC K4.out 14).trans (congrArg some HTR.out)),aC X4.out 1⟩) fun hS=> ?_;clear hK K;(try simp only [aF])
  refine ro 6 fun K hK=> ?_;refine want rfl ?_;go_simp;refine (qJn _ _ _ _ htc).mono ?_;rintro er W5 ⟨rfl,hb⟩;have K5:=nB hb K4;obtain ⟨P5,X5,R5,O5,E5,L5⟩:=n6 hb P4 X4 R4 O4 E4 L4;clear K4 P4 X4 R4 O4 E4 L4;clear hb;dsimp only;try clear hS
  refine nx hK (⟨((aC K5.out 14).trans (congrArg some HTR.out)),aC X5.out 1⟩) fun hS=> ?_;clear hK K;(try simp only [aF])
  rotate_left 1
  all_goals
   obtain ⟨v9,W6,hrun,hown,hb⟩:=jQ (P:=prog) (bytes:=24) (t:=39) (ty:=39) qUp (by decide) underlying39 (by kernel_rfl) qSz (w:=W5) (a:=ta) (n:=k.sent.length) (c:=1) (l:=k.sent) (by have h:=L5.out.se;rw [HTR.out] at h;exact Sl.clip h) (x:=⟨(j:Int),so⟩) (xb:=abO) O5.out (by unfold maxLen;omega) (by omega);have HRUN:=hU hrun;refine ro 13 fun K hK=> ?_;refine want rfl ?_;refine jK _ _ _ _ rfl _ _ rfl rfl _ _ HRUN.out ?_;have K6:=nB hb K5;obtain ⟨P6,X6,R6,O6,E6,L6⟩:=n6 hb P5 X5 R5 O5 E5 L5;clear K5 P5 X5 R5 O5 E5 L5;have ST6:=hU (KR.Own.sl qUp hown);clear hb hown hrun HRUN;try clear hS
   refine nx hK (⟨((aC K6.out 14).trans (congrArg some HTR.out)),aC X6.out 1⟩) fun hS=> ?_;clear hK K;(try simp only [aF])
   refine ts [.p 14,.p 15,.p 16] ?_;refine ro 17 fun K hK=> ?_;refine kRs v9 14 {y with se:=v9} {k with sent:=k.sent ++ [⟨(j:Int),so⟩]} zY K6 E6 ST6 (L6.out.qKm ST6.out) fun W7 hp L7 E7 K7=> ?_;have P7:=pT hp K6 P6;have X7:=pT hp K6 X6;have R7:=pT hp K6 R6;have O7:=pT hp K6 O6;have ST7:=hU (ST6.out.put K6.out hp (by decide));clear hp;clear K6 P6 X6 R6 O6 E6 L6 ST6;refine nt hK ?_;clear hK K;try clear hS
   (try simp only [aF])
   refine aZ (by kernel_rfl) (NoPanic.normal ?_) _;try clear hS
   refine sg ?_;intros;go_ret2
   rw [HW2.out];exact ⟨rfl,⟨_,_,K7.out,L7.out⟩,E7.out⟩
theorem qRx (b:Nat) (k:aI) (p:Proc) (x:Call) (w:World) (hk:cH w b k) (hpl:k.aG.length≤1000000) (hm:p.mem.size≤1000000) (hpd:∀ q ∈ k.aG,q.data.size≤1000000) (ha0:0≤x.a) (ha1:x.a<4294967296) (hb0:0≤x.b) (hb1:x.b<4294967296) (hc0:0≤x.c) (hc1:x.c<4294967296):
 Calls prog 177 #[.pointer (some ⟨b,0,none⟩),.agg p.cells,.agg x.cells] w (eN b (.tuple #[.int .u32 (writes k p x).v,.int .i64 (writes k p x).e]) (writes k p x).k w):=by
 obtain ⟨y,bs,hk0,hl⟩:=hk;have hbl:=hlt hk0;obtain ⟨W0,hW0,K0,P0,X0,E0,L0,hz0,hzK,hzP,hzX⟩:=st2 p.cells 121 x.cells 119 hk0 hl;have HEN:=fun W h=> WEnd b k p x.a W h ha0 ha1;have kX:W0.cell? ⟨w.heap.size + 1,1,none⟩=some (.int .u32 x.a):=aC X0.out 1;cases he:jJ k p x.a with
 |false=>
  have HW:=hU (show writes k p x=⟨k,0,1⟩ by rw [writes,if_pos (.inl he)]);simp only [mQ,he,Bool.false_eq_true,if_false] at HEN;clear he;go_in
  repeat' (first
   |(rw [hW0];clear hW0)
   |(refine aE (t:=121) (v:=.agg p.cells) rfl rfl rfl (aD aL P0.out rfl) ?_)
   |go_values|go_skip|go_guarded|refine wg ?_|go_step|go_upon)
  refine (HEN _ ⟨_,_,K0.out,L0.out⟩).mono ?_;rintro er W1 ⟨rfl,hb⟩;obtain ⟨K1,P1,X1,E1,L1⟩:=n5 hb K0 P0 X0 E0 L0;clear K0 P0 X0 E0 L0;clear hb kX HEN;dsimp only;obtain ⟨abN,hab,hab1N⟩:=nb0 E1;have habKN:=nlt K1 hab;have habPN:=nlt P1 hab;have habXN:=nlt X1 hab;obtain ⟨W2,hWn,hba,N2⟩:=nb1 (.cells #[.int .i64 0,.bool false] 116) hab;obtain ⟨K2,P2,X2,E2,L2⟩:=n5 hba K1 P1 X1 E1 L1;clear K1 P1 X1 E1 L1;clear hba
  repeat' (first
   |(rw [hWn,hab];clear hWn hab)
   |(refine sN 116 (.agg #[.int .i64 0,.bool false]) 0 #[.int .i64 0,.bool false] cN.size N2.out (by intro u hu;simp [Value.cells] at hu;rcases hu with rfl|rfl <;> rfl) fun W3 hp=> ?_
     have E3:=pE hp E2;have L3:Hid (aH W3 y bs k):=hU (hl.kept hk0 cI E3.out);have N3:=pA hp;have K3:=pT hp N2 K2;have P3:=pT hp N2 P2;have X3:=pT hp N2 X2;clear hp;clear K2 P2 X2 N2 E2 L2)
   |go_values|go_skip|go_guarded|refine wg ?_|go_step|go_upon)
  go_ret2
  rw [HW.out];exact ⟨rfl,⟨_,_,K3.out,L3.out⟩,E3.out⟩
 |true=>
  obtain ⟨d,e,hg⟩:∃ d e,gC p x.a.toNat=(d,e):=⟨_,_,rfl⟩
  have hd1:1≤d:=by
   refine Decidable.byContradiction fun h=> ?_;rw [oP (.inr (.inl (by rw [hg];show d<1;omega)))] at he;cases he
  have hdl:d≤k.aG.length:=by
   refine Decidable.byContradiction fun h=> ?_;rw [oP (.inr (.inr (by rw [hg];show (k.aG.length:Int)<d;omega)))] at he;cases he
  simp only [mQ,he,if_true,hg] at HEN;cases e
  · have HW:=hU (show writes k p x=⟨k,0,1⟩ by rw [writes,if_pos (.inr (by rw [hg]))]);clear he hg hd1 hdl;go_in
    repeat' (first
     |(rw [hW0];clear hW0)
     |(refine aE (t:=121) (v:=.agg p.cells) rfl rfl rfl (aD aL P0.out rfl) ?_)
     |go_values|go_skip|go_guarded|refine wg ?_|go_step|go_upon)
    refine (HEN _ ⟨_,_,K0.out,L0.out⟩).mono ?_;rintro er W1 ⟨rfl,hb⟩;obtain ⟨K1,P1,X1,E1,L1⟩:=n5 hb K0 P0 X0 E0 L0;clear K0 P0 X0 E0 L0;clear hb kX HEN;dsimp only;obtain ⟨abN,hab,hab1N⟩:=nb0 E1;have habKN:=nlt K1 hab;have habPN:=nlt P1 hab;have habXN:=nlt X1 hab;obtain ⟨W2,hWn,hba,N2⟩:=nb1 (.cells #[.int .i64 0,.bool false] 116) hab;obtain ⟨K2,P2,X2,E2,L2⟩:=n5 hba K1 P1 X1 E1 L1;clear K1 P1 X1 E1 L1;clear hba
    repeat' (first
     |(rw [hWn,hab];clear hWn hab)
     |(refine sN 116 (.agg #[.int .i64 d,.bool false]) 0 #[.int .i64 d,.bool false] cN.size N2.out (by intro u hu;simp [Value.cells] at hu;rcases hu with rfl|rfl <;> rfl) fun W3 hp=> ?_
       have E3:=pE hp E2;have L3:Hid (aH W3 y bs k):=hU (hl.kept hk0 cI E3.out);have N3:=pA hp;have K3:=pT hp N2 K2;have P3:=pT hp N2 P2;have X3:=pT hp N2 X2;clear hp;clear K2 P2 X2 N2 E2 L2;have kN1:W3.cell? ⟨abN,1,none⟩=some (.bool false):=aC N3.out 1)
     |go_values|go_skip|go_guarded|refine wg ?_|go_step|go_upon)
    go_ret2
    rw [HW.out];exact ⟨rfl,⟨_,_,K3.out,L3.out⟩,E3.out⟩
  obtain ⟨so,hso⟩:∃ so,Sg.sY p.mem x.b x.c=so:=⟨_,rfl⟩
  obtain ⟨eo,heo⟩:∃ eo,Sg.uL p.mem x.b x.c=eo:=⟨_,rfl⟩
  have HSO:=hU (fun W=> show Calls prog 216 #[.string p.mem,.int .u32 x.b,.int .u32 x.c] W (Is (.tuple #[.string so,.int .i64 eo]) W) by rw [← hso,← heo];exact Seg.Out p.mem x.b x.c W (by omega) hb0 hb1 hc0 hc1)
  have hsz:so.size≤1000000:=by
   rw [← hso];unfold Sg.sY;split
   · rw [ByteArray.size_extract];omega
   · exact Nat.zero_le _
  have HW1:=hU (show writes k p x=if eo ≠ 0 then ⟨k,0,eo⟩ else if (pwrite (eT k p x.a) so).2.2 ≠ 0 then ⟨k,0,(pwrite (eT k p x.a) so).2.2⟩ else ⟨{k with aG:=k.aG.set (d - 1).toNat (pwrite (eT k p x.a) so).1},(pwrite (eT k p x.a) so).2.1 % 4294967296,0⟩ by rw [writes,if_neg (by rw [he,hg];simp),hso,heo,hg]);have HTP:=hU (show eT k p x.a=(k.aG[(d - 1).toNat]?).getD ⟨ByteArray.empty,0,0⟩ by rw [eT,hg]);clear he hg hso heo;go_in
  repeat' (first
   |(rw [hW0];clear hW0)
   |(refine aE (t:=121) (v:=.agg p.cells) rfl rfl rfl (aD aL P0.out rfl) ?_)
   |go_values|go_skip|go_guarded|refine wg ?_|go_step|go_upon)
  refine (HEN _ ⟨_,_,K0.out,L0.out⟩).mono ?_;rintro er W1 ⟨rfl,hb⟩;obtain ⟨K1,P1,X1,E1,L1⟩:=n5 hb K0 P0 X0 E0 L0;clear K0 P0 X0 E0 L0;clear hb kX HEN;dsimp only;obtain ⟨abN,hab,hab1N⟩:=nb0 E1;have habKN:=nlt K1 hab;have habPN:=nlt P1 hab;have habXN:=nlt X1 hab;obtain ⟨W2,hWn,hba,N2⟩:=nb1 (.cells #[.int .i64 d,.bool true] 116) hab;obtain ⟨K2,P2,X2,E2,L2⟩:=n5 hba K1 P1 X1 E1 L1;clear K1 P1 X1 E1 L1;clear hba;have kN1:W2.cell? ⟨abN,1,none⟩=some (.bool true):=aC N2.out 1;have kM:W2.cell? ⟨w.heap.size,12,none⟩=some (.string p.mem):=aC P2.out 12;have kB:W2.cell? ⟨w.heap.size + 1,2,none⟩=some (.int .u32 x.b):=aC X2.out 2;have kC:W2.cell? ⟨w.heap.size + 1,3,none⟩=some (.int .u32 x.c):=aC X2.out 3
  repeat' (first
   |(rw [hWn];clear hWn)
   |go_values|go_skip|go_guarded|refine wg ?_|go_step|go_upon)
  try rw [hab]
  clear hab;refine (HSO.out _).mono ?_;rintro er Wx ⟨rfl,rfl⟩;clear kN1 kM kB kC HSO;dsimp only;by_cases hz:eo=0
  rotate_left
  · have HW:=HW1.out;rw [if_pos hz] at HW;have HW2:=hU HW;have hzb:(eo !=0)=true:=by simp [hz]
    clear HW HW1;refine sg ?_;intros;go_ret2
    rw [HW2.out];exact ⟨rfl,⟨_,_,K2.out,L2.out⟩,E2.out⟩
  subst hz;have HW:=HW1.out;rw [if_neg (by simp)] at HW;have HW2:=hU HW;clear HW HW1;obtain ⟨j,hj⟩:∃ j:Nat,d=(j:Int) + 1:=⟨(d - 1).toNat,by omega⟩
  have hdj:(d - 1).toNat=j:=by omega
  rw [hdj] at HW2 HTP;have hjl:j<k.aG.length:=by omega
  obtain ⟨pp,hpp⟩:∃ pp,k.aG[j]? =some pp:=⟨_,List.getElem?_eq_getElem hjl⟩
  have htp:eT k p x.a=pp:=by rw [HTP.out,hpp];rfl
  rw [htp] at HW2;have hpz:=hpd pp (List.mem_of_getElem? hpp);clear HTP htp hdj;obtain ⟨pa,pc,hpa,hpc0,hpc1,h0|⟨gr,og,cur,ha,hgr,hi⟩⟩:=L2.out.pi
  · rw [h0] at hjl;exact absurd hjl (Nat.not_lt_zero _)
  subst ha;have HPA:=hU hpa;clear hpa;have R2:=hU hgr;have hjI:d - 1=(j:Int):=by omega
  have hjL:(j:Int)<(k.aG.length:Int):=by omega
  have hjw:IntKind.i64.wrap (j:Int)=(j:Int):=by rw [IntKind.wrap_i64];omega
  have hj0:(0:Int)≤(j:Int):=by omega
  clear hgr hj hd1 hdl;obtain ⟨wr,hwr⟩:∃ wr,pwrite pp so=wr:=⟨_,rfl⟩
  have HPW:=hU (fun W=> show Calls prog 217 #[.agg pp.cells,.string so] W (aN (.tuple #[.agg wr.1.cells,.int .i64 wr.2.1,.int .i64 wr.2.2]) W) by rw [← hwr];exact qVj pp so W hpz (by omega));rw [hwr] at HW2;clear hwr;obtain ⟨np,nv,ne⟩:=wr;dsimp only at HPW HW2;refine sg ?_;intros;refine wp_region_noPanic ?_;refine go0 (S:=fun W=> (W.cell? ⟨b,4,none⟩=some (.slice (some ⟨gr,og,none⟩) k.aG.length pc))∧(W.cell? ⟨abN,0,none⟩=some (.int .i64 d))∧(W.heap[gr]? =some (.cells cur 191 (0,0)))) [17] (⟨((aC K2.out 4).trans (congrArg some HPA.out)),aC N2.out 0,R2.out⟩) fun hS=> ?_;obtain ⟨W3,hWd⟩:=exW W2.drew;have K3:=dB hWd K2;obtain ⟨P3,X3,N3,R3,E3,L3⟩:=n6 (dW hWd) P2 X2 N2 R2 E2 L2;rw [hWd] at hS ⊢;clear hWd;clear K2 P2 X2 N2 R2 E2 L2;refine ts [.p 0,.p 1,.p 2,.p 3,.l 4,.p 5,.l 6,.p 7,.p 8] ?_;refine tv 9 (.agg pp.cells) (fun W hSW=> aR rfl rfl (cA (o:=og + j * 3) iD rfl (fun _ u hu=> (aC hSW.2.2 _).trans (hi _ _ hpp _ u hu)))) ?_;(try simp only [aF])
  refine tp 10 ?_;try simp only [aF]
  refine oT (i:=11) (j:=16) (by kernel_rfl) rfl rfl (fun K hK=> ?_) (fun K hK=> ?_);refine want rfl ?_;go_simp;refine (HPW.out _).mono ?_;rintro er W4 ⟨rfl,hb⟩;have K4:=nB hb K3;obtain ⟨P4,X4,N4,R4,E4,L4⟩:=n6 hb P3 X3 N3 R3 E3 L3;clear K3 P3 X3 N3 R3 E3 L3;clear hb;dsimp only;try clear hS
  refine nx hK (⟨((aC K4.out 4).trans (congrArg some HPA.out)),aC N4.out 0,R4.out⟩) fun hS=> ?_;clear hK K;(try simp only [aF])
  refine ts [.p 12,.p 13,.p 14,.p 15] ?_;refine ro 16 fun K hK=> ?_;obtain ⟨abG,hab,hab1⟩:=nb0 E4;have habK:=nlt K4 hab;have habP:=nlt P4 hab;have habX:=nlt X4 hab;have habN:=nlt N4 hab;have habR:=nlt R4 hab;have hoffG:=L4.out.pi.dJ (Nat.le_of_eq hab);go_simp;obtain ⟨W5,hWn,hba,G5⟩:=nb1 (.cells #[.string ⟨#[]⟩,.int .i64 0,.int .i64 0] 191) hab;rw [hWn];clear hWn;have K5:=nB hba K4;obtain ⟨P5,X5,N5,R5,E5,L5⟩:=n6 hba P4 X4 N4 R4 E4 L4;clear K4 P4 X4 N4 R4 E4 L4;clear hba;try rw [hab]
  clear hab;try clear hS
  refine nx hK (⟨((aC K5.out 4).trans (congrArg some HPA.out)),aC N5.out 0,R5.out⟩) fun hS=> ?_;clear hK K;(try simp only [aF])
  rotate_left
  obtain ⟨abG,hab,hab1⟩:=nb0 E3;have habK:=nlt K3 hab;have habP:=nlt P3 hab;have habX:=nlt X3 hab;have habN:=nlt N3 hab;have habR:=nlt R3 hab;have hoffG:=L3.out.pi.dJ (Nat.le_of_eq hab);go_simp;obtain ⟨W4,hWn,hba,G4⟩:=nb1 (.cells #[.string ⟨#[]⟩,.int .i64 0,.int .i64 0] 191) hab;rw [hWn];clear hWn;have K4:=nB hba K3;obtain ⟨P4,X4,N4,R4,E4,L4⟩:=n6 hba P3 X3 N3 R3 E3 L3;clear K3 P3 X3 N3 R3 E3 L3;clear hba;try rw [hab]
  clear hab;try clear hS
  refine nx hK (⟨((aC K4.out 4).trans (congrArg some HPA.out)),aC N4.out 0,R4.out⟩) fun hS=> ?_;clear hK K;(try simp only [aF])
  refine ro 11 fun K hK=> ?_;refine want rfl ?_;go_simp;refine (HPW.out _).mono ?_;rintro er W5 ⟨rfl,hb⟩;have K5:=nB hb K4;have P5:=nB hb P4;obtain ⟨X5,N5,R5,G5,E5,L5⟩:=n6 hb X4 N4 R4 G4 E4 L4;clear K4 P4 X4 N4 R4 G4 E4 L4;clear hb;dsimp only;try clear hS
  refine nx hK (⟨((aC K5.out 4).trans (congrArg some HPA.out)),aC N5.out 0,R5.out⟩) fun hS=> ?_;clear hK K;(try simp only [aF])
  refine ts [.p 12,.p 13,.p 14,.p 15] ?_
  all_goals
   refine ro 17 fun K hK=> ?_;refine want rfl ?_;refine cL (v:=.agg np.cells) (off:=0) (new:=np.cells) rfl rfl rfl iD.size G5.out rfl (show 0 + 3≤3 by decide) (qEj np) rfl ?_;intro W6 hp;have E6:=pE hp E5;have L6:Hid (aH W6 y bs k):=hU (L5.out.qAa (L5.out.pi.dY hoffG hp) G5.out hp);have G6:=pA hp;have K6:=pT hp G5 K5;have P6:=pT hp G5 P5;have X6:=pT hp G5 X5;have N6:=pT hp G5 N5;have R6:=pO hp R5;clear hp;clear K5 P5 X5 N5 R5 G5 E5 L5;refine nt hK ?_;clear hK K;try clear hS
   (try simp only [aF])
   refine ro 18 fun K hK=> ?_;go_simp;refine nb hK ?_;clear hK K;(try simp only [aF])
   refine ro 19 fun K hK=> ?_;go_simp;refine nb hK ?_;clear hK K;(try simp only [aF])
   refine aZ (by kernel_rfl) (NoPanic.normal ?_) _;try clear hS
   by_cases hz:ne=0
   rotate_left
   · have HW:=HW2.out;rw [if_pos hz] at HW;have HW3:=hU HW;have hzb:(ne !=0)=true:=by simp [hz]
     clear HW HW2;refine sg ?_;intros;go_ret2
     rw [HW3.out];exact ⟨rfl,⟨_,_,K6.out,L6.out⟩,E6.out⟩
   subst hz;have HW:=HW2.out;rw [if_neg (by simp)] at HW;have HW3:=hU HW;clear HW HW2;clear R6;have kP4:W6.cell? ⟨b,4,none⟩=some y.pi:=aC K6.out 4;refine sg ?_;intros;have hG6:=hlt G6.out;have hE6:=E6.out.size;refine (sD y.pi k.aG _ L6.out.pi (by omega)).mono ?_;rintro er W7 ⟨vc,rfl,ho,hb⟩;have K7:=nB hb K6;obtain ⟨P7,X7,N7,G7,E7,L7⟩:=n6 hb P6 X6 N6 G6 E6 L6;clear K6 P6 X6 N6 G6 E6 L6;clear hb kP4;have hne:k.aG ≠ []:=fun h=> by rw [h] at hjl;exact Nat.not_lt_zero _ hjl
   obtain ⟨gc,cap,cur2,rfl,hB,hrow⟩:=Own.row ho hne;clear ho hne;dsimp only;have hrc:=hrow.2;have hcap:=hrc.1;have hcsz:=hrc.2.2.1;have C7:=hU hrow.1;clear hrow;have hcs:∀ W:World,W.heap[gc]? =some (.cells cur2 191 (0,0))→SlPp W (.slice (some ⟨gc,0,none⟩) k.aG.length cap) k.aG:=fun W h=> KR.Own.sl fB (Row.own fB (cap:=cap) (cur:=cur2) ⟨h,hrc⟩ (Nat.zero_le gc))
   repeat' (first
    |(refine aP (t:=31) (v:=(.slice (some ⟨gc,0,none⟩) k.aG.length cap)) (off:=4) (new:=aJ {y with pi:=(.slice (some ⟨gc,0,none⟩) k.aG.length cap)} k) rfl rfl rfl rfl fK K7.out (hcs _ C7.out).jF (hcs _ C7.out).jW (show 4 + 1≤17 by decide) rfl ?_;intro W8 hp
      have L8:Hid (aH W8 {y with pi:=(.slice (some ⟨gc,0,none⟩) k.aG.length cap)} bs k):=hU ((L7.out.mJ (hcs _ C7.out)).put K7.out cI hp);have E8:=pK hp E7;have K8:Hid (W8.heap[b]? =some (.cells (aJ {y with pi:=(.slice (some ⟨gc,0,none⟩) k.aG.length cap)} k) 104 (0,0))):=pA hp;have P8:=pT hp K7 P7;have X8:=pT hp K7 X7;have N8:=pT hp K7 N7;have G8:=pT hp K7 G7;have C8:=pT hp K7 C7;clear hp;clear K7 P7 X7 N7 G7 C7 E7 L7)
    |go_values|go_skip|go_guarded|refine wg ?_|go_step|go_upon)
   refine wp_region_noPanic ?_;refine go0 (S:=fun W=> (W.cell? ⟨b,4,none⟩=some (.slice (some ⟨gc,0,none⟩) k.aG.length cap))∧(W.cell? ⟨abN,0,none⟩=some (.int .i64 d))∧(W.heap[abG]? =some (.cells np.cells 191 (0,0)))) [10] (⟨aC K8.out 4,aC N8.out 0,G8.out⟩) fun hS=> ?_;obtain ⟨W9,hWd⟩:=exW W8.drew;have K9:=dB hWd K8;have P9:=dB hWd P8;obtain ⟨X9,N9,G9,C9,E9,L9⟩:=n6 (dW hWd) X8 N8 G8 C8 E8 L8;rw [hWd] at hS ⊢;clear hWd;clear K8 P8 X8 N8 G8 C8 E8 L8;refine ts [.p 0,.p 1,.p 2,.p 3,.l 4,.p 5,.l 6,.p 7] ?_;refine tv 8 (.agg np.cells) (fun W hSW=> aR rfl rfl (aD iD hSW.2.2 rfl)) ?_;(try simp only [aF])
   refine tp 9 ?_;try simp only [aF]
   refine ro 10 fun K hK=> ?_;refine want rfl ?_;refine cL (v:=.agg np.cells) (off:=j * 3) (new:=(aQ cur2 (j * 3) np.cells)) rfl rfl rfl iD.size C9.out rfl (by omega) (qEj np) rfl ?_;intro W10 hp;have E10:=pE hp E9;have L10:Hid (aH W10 {y with pi:=(.slice (some ⟨gc,0,none⟩) k.aG.length cap)} bs {k with aG:=k.aG.set j np}):=hU (L9.out.qAa (qKh C9.out hrc hjl hp) C9.out hp);have C10:=pA hp;have K10:=pT hp C9 K9;have P10:=pT hp C9 P9;have X10:=pT hp C9 X9;have N10:=pT hp C9 N9;have G10:=pO hp G9;clear hp;clear K9 P9 X9 N9 G9 C9 E9 L9;refine nt hK ?_;clear hK K;try clear hS
   (try simp only [aF])
   refine aZ (by kernel_rfl) (NoPanic.normal ?_) _;try clear hS
   refine sg ?_;intros;go_ret2
   rw [HW3.out];exact ⟨rfl,⟨_,_,K10.out,L10.out⟩,E10.out⟩
