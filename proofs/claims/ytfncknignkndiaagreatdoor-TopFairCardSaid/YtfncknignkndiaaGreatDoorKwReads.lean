/- kern.reads. Conditions: as many as Go can hold; words' numbers. -/
import Derived.Test.YtfncknignkndiaaGreatDoorKwFresh
import Derived.Test.YtfncknignkndiaaGreatDoorGEnd
import Derived.Test.YtfncknignkndiaaGreatDoorGSeg
set_option linter.unusedVariables false
set_option maxRecDepth 100000
set_option maxHeartbeats 8000000
set_option linter.unusedSimpArgs false
namespace Go.Proofs.YtfncknignkndiaaGreatDoor
open Tryz
open Go.RowKit KR RegT3
namespace Kn
theorem qWe (b:Nat) (k:aI) (p:Proc) (x:Call) (w:World) (hk:cH w b k) (hn:k.p.length≤1000000) (hpl:k.aG.length≤1000000) (hm:p.mem.size≤1000000) (hpd:∀ q ∈ k.aG,q.data.size≤1000000) (ha0:0≤x.a) (ha1:x.a<4294967296) (hb0:0≤x.b) (hb1:x.b<4294967296) (hc0:0≤x.c) (hc1:x.c<4294967296):
 Calls prog 178 #[.pointer (some ⟨b,0,none⟩),.agg p.cells,.agg x.cells] w (eN b (.tuple #[.int .u32 (reads k p x).v,.int .i64 (reads k p x).e]) (reads k p x).k w):=by
 obtain ⟨y,bs,hk0,hl⟩:=hk;have hbl:=hlt hk0;obtain ⟨W0,hW0,K0,P0,X0,E0,L0,hz0,hzK,hzP,hzX⟩:=st2 p.cells 121 x.cells 119 hk0 hl;have HEN:=fun W h=> WEnd b k p x.a W h ha0 ha1;have kX:W0.cell? ⟨w.heap.size + 1,1,none⟩=some (.int .u32 x.a):=aC X0.out 1;cases he:jJ k p x.a with
 |false=>
  have HW:=hU (show reads k p x=⟨k,0,1⟩ by rw [reads,if_pos (.inl he)]);simp only [mQ,he,Bool.false_eq_true,if_false] at HEN;clear he;go_in
  repeat' (first
   |(rw [hW0];clear hW0)
   |(refine aE (t:=121) (v:=.agg p.cells) rfl rfl rfl (aD aL P0.out rfl) ?_)
   |go_values|go_skip|go_guarded|refine wg ?_|go_step|go_upon)
  refine (HEN _ ⟨_,_,K0.out,L0.out⟩).mono ?_;rintro er W1 ⟨rfl,hb⟩;obtain ⟨K1,P1,X1,E1,L1⟩:=n5 hb K0 P0 X0 E0 L0;clear K0 P0 X0 E0 L0;clear hb kX HEN;dsimp only;obtain ⟨abN,hab,hab1N⟩:=nb0 E1;have habKN:=nlt K1 hab;have habPN:=nlt P1 hab;have habXN:=nlt X1 hab;obtain ⟨W2,hWn,hba,N2⟩:=nb1 (.cells #[.int .i64 0,.bool false] 116) hab;obtain ⟨K2,P2,X2,E2,L2⟩:=n5 hba K1 P1 X1 E1 L1;clear K1 P1 X1 E1 L1;clear hba
  repeat' (first
   |(rw [hWn,hab];clear hWn hab)
   |(refine sN 116 (.agg #[.int .i64 0,.bool false]) 0 #[.int .i64 0,.bool false] cN.size N2.out (by intro u hu;simp [Value.cells] at hu;rcases hu with rfl|rfl <;> rfl) fun W3 hp=> ?_
     have E3:=pE hp E2;have L3:Hid (aH W3 y bs k):=hU (hl.kept hk0 cI E3.out);have N3:=pA hp;have K3:=pT hp N2 K2;have P3:=pT hp N2 P2;have X3:=pT hp N2 X2;clear hp;clear K2 P2 X2 N2 E2 L2)
   |go_values|go_skip|go_guarded|refine wg ?_|go_step|go_upon)
  go_ret2
  rw [HW.out];exact ⟨rfl,⟨_,_,K3.out,L3.out⟩,E3.out⟩
 |true=>
  obtain ⟨d,e,hg⟩:∃ d e,gC p x.a.toNat=(d,e):=⟨_,_,rfl⟩
  have hd1:1≤d:=by
   refine Decidable.byContradiction fun h=> ?_;rw [oP (.inr (.inl (by rw [hg];show d<1;omega)))] at he;cases he
  have hdl:d≤k.aG.length:=by
   refine Decidable.byContradiction fun h=> ?_;rw [oP (.inr (.inr (by rw [hg];show (k.aG.length:Int)<d;omega)))] at he;cases he
  simp only [mQ,he,if_true,hg] at HEN;cases e;rotate_left
  · have HW:=hU (show reads k p x=⟨k,0,1⟩ by rw [reads,if_pos (.inr (by rw [hg]))]);clear he hg hd1 hdl;go_in
    repeat' (first
     |(rw [hW0];clear hW0)
     |(refine aE (t:=121) (v:=.agg p.cells) rfl rfl rfl (aD aL P0.out rfl) ?_)
     |go_values|go_skip|go_guarded|refine wg ?_|go_step|go_upon)
    refine (HEN _ ⟨_,_,K0.out,L0.out⟩).mono ?_;rintro er W1 ⟨rfl,hb⟩;obtain ⟨K1,P1,X1,E1,L1⟩:=n5 hb K0 P0 X0 E0 L0;clear K0 P0 X0 E0 L0;clear hb kX HEN;dsimp only;obtain ⟨abN,hab,hab1N⟩:=nb0 E1;have habKN:=nlt K1 hab;have habPN:=nlt P1 hab;have habXN:=nlt X1 hab;obtain ⟨W2,hWn,hba,N2⟩:=nb1 (.cells #[.int .i64 0,.bool false] 116) hab;obtain ⟨K2,P2,X2,E2,L2⟩:=n5 hba K1 P1 X1 E1 L1;clear K1 P1 X1 E1 L1;clear hba
    repeat' (first
     |(rw [hWn,hab];clear hWn hab)
     |(refine sN 116 (.agg #[.int .i64 d,.bool true]) 0 #[.int .i64 d,.bool true] cN.size N2.out (by intro u hu;simp [Value.cells] at hu;rcases hu with rfl|rfl <;> rfl) fun W3 hp=> ?_
       have E3:=pE hp E2;have L3:Hid (aH W3 y bs k):=hU (hl.kept hk0 cI E3.out);have N3:=pA hp;have K3:=pT hp N2 K2;have P3:=pT hp N2 P2;have X3:=pT hp N2 X2;clear hp;clear K2 P2 X2 N2 E2 L2;have kN1:W3.cell? ⟨abN,1,none⟩=some (.bool true):=aC N3.out 1)
     |go_values|go_skip|go_guarded|refine wg ?_|go_step|go_upon)
    go_ret2
    rw [HW.out];exact ⟨rfl,⟨_,_,K3.out,L3.out⟩,E3.out⟩
  obtain ⟨so,hso⟩:∃ so,Sg.sY p.mem x.b x.c=so:=⟨_,rfl⟩
  obtain ⟨eo,heo⟩:∃ eo,Sg.uL p.mem x.b x.c=eo:=⟨_,rfl⟩
  have HSO:=hU (fun W=> show Calls prog 216 #[.string p.mem,.int .u32 x.b,.int .u32 x.c] W (Is (.tuple #[.string so,.int .i64 eo]) W) by rw [← hso,← heo];exact Seg.Out p.mem x.b x.c W (by omega) hb0 hb1 hc0 hc1)
  have hsz:so.size≤1000000:=by
   rw [← hso];unfold Sg.sY;split
   · rw [ByteArray.size_extract];omega
   · exact Nat.zero_le _
  have HW1:=hU (show reads k p x=if eo ≠ 0 then ⟨k,0,eo⟩ else if (pread (eT k p x.a) x.c).2.2 ≠ 0 then ⟨k,0,(pread (eT k p x.a) x.c).2.2⟩ else ⟨{k with aG:=k.aG.set (d - 1).toNat (pread (eT k p x.a) x.c).1,p:=put k.p {p with mem:=Sg.inM p.mem x.b (pread (eT k p x.a) x.c).2.1}},((pread (eT k p x.a) x.c).2.1.size:Int) % 4294967296,0⟩ by rw [reads,if_neg (by rw [he,hg];simp),heo,hg]);have HTP:=hU (show eT k p x.a=(k.aG[(d - 1).toNat]?).getD ⟨ByteArray.empty,0,0⟩ by rw [eT,hg]);clear he hg hso heo;go_in
  repeat' (first
   |(rw [hW0];clear hW0)
   |(refine aE (t:=121) (v:=.agg p.cells) rfl rfl rfl (aD aL P0.out rfl) ?_)
   |go_values|go_skip|go_guarded|refine wg ?_|go_step|go_upon)
  refine (HEN _ ⟨_,_,K0.out,L0.out⟩).mono ?_;rintro er W1 ⟨rfl,hb⟩;obtain ⟨K1,P1,X1,E1,L1⟩:=n5 hb K0 P0 X0 E0 L0;clear K0 P0 X0 E0 L0;clear hb kX HEN;dsimp only;obtain ⟨abN,hab,hab1N⟩:=nb0 E1;have habKN:=nlt K1 hab;have habPN:=nlt P1 hab;have habXN:=nlt X1 hab;obtain ⟨W2,hWn,hba,N2⟩:=nb1 (.cells #[.int .i64 0,.bool false] 116) hab;obtain ⟨K2,P2,X2,E2,L2⟩:=n5 hba K1 P1 X1 E1 L1;clear K1 P1 X1 E1 L1;clear hba
  repeat' (first
   |(rw [hWn,hab];clear hWn hab)
   |(refine sN 116 (.agg #[.int .i64 d,.bool false]) 0 #[.int .i64 d,.bool false] cN.size N2.out (by intro u hu;simp [Value.cells] at hu;rcases hu with rfl|rfl <;> rfl) fun W3 hp=> ?_
     have E3:=pE hp E2;have L3:Hid (aH W3 y bs k):=hU (hl.kept hk0 cI E3.out);have N3:=pA hp;have K3:=pT hp N2 K2;have P3:=pT hp N2 P2;have X3:=pT hp N2 X2;clear hp;clear K2 P2 X2 N2 E2 L2;have kN1:W3.cell? ⟨abN,1,none⟩=some (.bool false):=aC N3.out 1;have kM:W3.cell? ⟨w.heap.size,12,none⟩=some (.string p.mem):=aC P3.out 12;have kB:W3.cell? ⟨w.heap.size + 1,2,none⟩=some (.int .u32 x.b):=aC X3.out 2;have kC:W3.cell? ⟨w.heap.size + 1,3,none⟩=some (.int .u32 x.c):=aC X3.out 3)
   |go_values|go_skip|go_guarded|refine wg ?_|go_step|go_upon)
  try clear hWn hab
  refine (HSO.out _).mono ?_;rintro er Wx ⟨rfl,rfl⟩;clear kN1 kM kB kC HSO;dsimp only;by_cases hz:eo=0
  rotate_left
  · have HW:=HW1.out;rw [if_pos hz] at HW;have HW2:=hU HW;have hzb:(eo !=0)=true:=by simp [hz]
    clear HW HW1;refine sg ?_;intros;go_ret2
    rw [HW2.out];exact ⟨rfl,⟨_,_,K3.out,L3.out⟩,E3.out⟩
  subst hz;have HW:=HW1.out;rw [if_neg (by simp)] at HW;have HW2:=hU HW;clear HW HW1;obtain ⟨j,hj⟩:∃ j:Nat,d=(j:Int) + 1:=⟨(d - 1).toNat,by omega⟩
  have hdj:(d - 1).toNat=j:=by omega
  rw [hdj] at HW2 HTP;have hjl:j<k.aG.length:=by omega
  obtain ⟨pp,hpp⟩:∃ pp,k.aG[j]? =some pp:=⟨_,List.getElem?_eq_getElem hjl⟩
  have htp:eT k p x.a=pp:=by rw [HTP.out,hpp];rfl
  rw [htp] at HW2;have hpz:=hpd pp (List.mem_of_getElem? hpp);clear HTP htp hdj;obtain ⟨pa,pc,hpa,hpc0,hpc1,h0|⟨gr,og,cur,ha,hgr,hi⟩⟩:=L3.out.pi
  · rw [h0] at hjl;exact absurd hjl (Nat.not_lt_zero _)
  subst ha;have HPA:=hU hpa;clear hpa;have R3:=hU hgr;have hjI:d - 1=(j:Int):=by omega
  have hjL:(j:Int)<(k.aG.length:Int):=by omega
  have hjw:IntKind.i64.wrap (j:Int)=(j:Int):=by rw [IntKind.wrap_i64];omega
  have hj0:(0:Int)≤(j:Int):=by omega
  clear hgr hj hd1 hdl;obtain ⟨wr,hwr⟩:∃ wr,pread pp x.c=wr:=⟨_,rfl⟩
  have hrs:wr.2.1.size≤1000000:=by
   rw [← hwr];unfold pread;split
   · exact Nat.zero_le _
   · split
     · exact Nat.zero_le _
     · split
       · exact Nat.zero_le _
       · show (pp.data.extract 0 _).size≤_
         rw [ByteArray.size_extract];omega
  have hcw:IntKind.i64.wrap x.c=x.c:=by rw [IntKind.wrap_i64];omega
  have HPW:=hU (fun W=> show Calls prog 218 #[.agg pp.cells,.int .i64 x.c] W (aN (.tuple #[.agg wr.1.cells,.string wr.2.1,.int .i64 wr.2.2]) W) by rw [← hwr];exact qYs pp x.c W (by omega));rw [hwr] at HW2;clear hwr;obtain ⟨np,nv,ne⟩:=wr;dsimp only at HPW HW2 hrs;refine sg ?_;intros;refine wp_region_noPanic ?_;refine go0 (S:=fun W=> (W.cell? ⟨b,4,none⟩=some (.slice (some ⟨gr,og,none⟩) k.aG.length pc))∧(W.cell? ⟨abN,0,none⟩=some (.int .i64 d))∧(W.heap[gr]? =some (.cells cur 191 (0,0)))∧(W.cell? ⟨w.heap.size + 1,3,none⟩=some (.int .u32 x.c))) [19] (⟨((aC K3.out 4).trans (congrArg some HPA.out)),aC N3.out 0,R3.out,aC X3.out 3⟩) fun hS=> ?_;obtain ⟨W4,hWd⟩:=exW W3.drew;have K4:=dB hWd K3;obtain ⟨P4,X4,N4,R4,E4,L4⟩:=n6 (dW hWd) P3 X3 N3 R3 E3 L3;rw [hWd] at hS ⊢;clear hWd;clear K3 P3 X3 N3 R3 E3 L3;refine ts [.p 0,.p 1,.p 2,.p 3,.l 4,.p 5,.l 6,.p 7,.p 8] ?_;refine tv 9 (.agg pp.cells) (fun W hSW=> aR rfl rfl (cA (o:=og + j * 3) iD rfl (fun _ u hu=> (aC hSW.2.2.1 _).trans (hi _ _ hpp _ u hu)))) ?_;(try simp only [aF])
  refine ts [.p 10,.l 11,.p 12] ?_;refine oT (i:=13) (j:=18) (by kernel_rfl) rfl rfl (fun K hK=> ?_) (fun K hK=> ?_);refine want rfl ?_;go_simp;refine (HPW.out _).mono ?_;rintro er W5 ⟨rfl,hb⟩;have K5:=nB hb K4;obtain ⟨P5,X5,N5,R5,E5,L5⟩:=n6 hb P4 X4 N4 R4 E4 L4;clear K4 P4 X4 N4 R4 E4 L4;clear hb;dsimp only;try clear hS
  refine nx hK (⟨((aC K5.out 4).trans (congrArg some HPA.out)),aC N5.out 0,R5.out,aC X5.out 3⟩) fun hS=> ?_;clear hK K;(try simp only [aF])
  refine ts [.p 14,.p 15,.p 16,.p 17] ?_;refine ro 18 fun K hK=> ?_;obtain ⟨abG,hab,hab1⟩:=nb0 E5;have habK:=nlt K5 hab;have habP:=nlt P5 hab;have habX:=nlt X5 hab;have habN:=nlt N5 hab;have habR:=nlt R5 hab;have hoffG:=L5.out.pi.dJ (Nat.le_of_eq hab);go_simp;obtain ⟨W6,hWn,hba,G6⟩:=nb1 (.cells #[.string ⟨#[]⟩,.int .i64 0,.int .i64 0] 191) hab;rw [hWn];clear hWn;have K6:=nB hba K5;obtain ⟨P6,X6,N6,R6,E6,L6⟩:=n6 hba P5 X5 N5 R5 E5 L5;clear K5 P5 X5 N5 R5 E5 L5;clear hba;try rw [hab]
  clear hab;try clear hS
  refine nx hK (⟨((aC K6.out 4).trans (congrArg some HPA.out)),aC N6.out 0,R6.out,aC X6.out 3⟩) fun hS=> ?_;clear hK K;(try simp only [aF])
  rotate_left
  obtain ⟨abG,hab,hab1⟩:=nb0 E4;have habK:=nlt K4 hab;have habP:=nlt P4 hab;have habX:=nlt X4 hab;have habN:=nlt N4 hab;have habR:=nlt R4 hab;have hoffG:=L4.out.pi.dJ (Nat.le_of_eq hab);go_simp;obtain ⟨W5,hWn,hba,G5⟩:=nb1 (.cells #[.string ⟨#[]⟩,.int .i64 0,.int .i64 0] 191) hab;rw [hWn];clear hWn;have K5:=nB hba K4;obtain ⟨P5,X5,N5,R5,E5,L5⟩:=n6 hba P4 X4 N4 R4 E4 L4;clear K4 P4 X4 N4 R4 E4 L4;clear hba;try rw [hab]
  clear hab;try clear hS
  refine nx hK (⟨((aC K5.out 4).trans (congrArg some HPA.out)),aC N5.out 0,R5.out,aC X5.out 3⟩) fun hS=> ?_;clear hK K;(try simp only [aF])
  refine ro 13 fun K hK=> ?_;refine want rfl ?_;go_simp;refine (HPW.out _).mono ?_;rintro er W6 ⟨rfl,hb⟩;have K6:=nB hb K5;have P6:=nB hb P5;obtain ⟨X6,N6,R6,G6,E6,L6⟩:=n6 hb X5 N5 R5 G5 E5 L5;clear K5 P5 X5 N5 R5 G5 E5 L5;clear hb;dsimp only;try clear hS
  refine nx hK (⟨((aC K6.out 4).trans (congrArg some HPA.out)),aC N6.out 0,R6.out,aC X6.out 3⟩) fun hS=> ?_;clear hK K;(try simp only [aF])
  refine ts [.p 14,.p 15,.p 16,.p 17] ?_
  all_goals
   refine ro 19 fun K hK=> ?_;refine want rfl ?_;refine cL (v:=.agg np.cells) (off:=0) (new:=np.cells) rfl rfl rfl iD.size G6.out rfl (show 0 + 3≤3 by decide) (qEj np) rfl ?_;intro W7 hp;have E7:=pE hp E6;have L7:Hid (aH W7 y bs k):=hU (L6.out.qAa (L6.out.pi.dY hoffG hp) G6.out hp);have G7:=pA hp;have K7:=pT hp G6 K6;have P7:=pT hp G6 P6;have X7:=pT hp G6 X6;have N7:=pT hp G6 N6;have R7:=pO hp R6;clear hp;clear K6 P6 X6 N6 R6 G6 E6 L6;refine nt hK ?_;clear hK K;try clear hS
   (try simp only [aF])
   refine ro 20 fun K hK=> ?_;go_simp;refine nb hK ?_;clear hK K;(try simp only [aF])
   refine ro 21 fun K hK=> ?_;go_simp;refine nb hK ?_;clear hK K;(try simp only [aF])
   refine aZ (by kernel_rfl) (NoPanic.normal ?_) _;try clear hS
   by_cases hz:ne=0
   rotate_left
   · have HW:=HW2.out;rw [if_pos hz] at HW;have HW3:=hU HW;have hzb:(ne !=0)=true:=by simp [hz]
     clear HW HW2;refine sg ?_;intros;go_ret2
     rw [HW3.out];exact ⟨rfl,⟨_,_,K7.out,L7.out⟩,E7.out⟩
   subst hz;have HW:=HW2.out;rw [if_neg (by simp)] at HW;have HW3:=hU HW;clear HW HW2;clear R7;obtain ⟨mm,hmm⟩:∃ mm,Sg.inM p.mem x.b nv=mm:=⟨_,rfl⟩
   obtain ⟨me,hme⟩:∃ me,Sg.inE p.mem x.b nv=me:=⟨_,rfl⟩
   have HIN:=hU (fun W=> show Calls prog 219 #[.string p.mem,.int .u32 x.b,.string nv] W (aN (.tuple #[.string mm,.int .i64 me]) W) by rw [← hmm,← hme];exact Seg.In p.mem x.b nv W (by omega) (by omega) hb0 hb1);rw [hmm] at HW3;clear hmm hme;have kM:W7.cell? ⟨w.heap.size,12,none⟩=some (.string p.mem):=aC P7.out 12;have kB:W7.cell? ⟨w.heap.size + 1,2,none⟩=some (.int .u32 x.b):=aC X7.out 2;refine sg ?_;intros;refine (HIN.out _).mono ?_;rintro er W8 ⟨rfl,hb⟩;have K8:=nB hb K7;obtain ⟨P8,X8,N8,G8,E8,L8⟩:=n6 hb P7 X7 N7 G7 E7 L7;clear K7 P7 X7 N7 G7 E7 L7;clear hb kM kB;dsimp only
   repeat' (first
    |(refine aP (t:=9) (v:=.string mm) (off:=12) (new:=({p with mem:=mm}:Proc).cells) rfl rfl rfl rfl pI P8.out rfl rfl (show 12 + 1≤26 by decide) rfl ?_;intro W9 hp
      have E9:=pE hp E8;have L9:Hid (aH W9 y bs k):=hU (L8.out.dG (L8.out.p.dY (hl.p.dJ (Nat.le_refl _)) hp) P8.out hp);have P9:=pA hp;have K9:=pT hp P8 K8;have X9:=pT hp P8 X8;have N9:=pT hp P8 N8;have G9:=pT hp P8 G8;clear hp;clear K8 P8 X8 N8 G8 E8 L8;have kP4:W9.cell? ⟨b,4,none⟩=some y.pi:=aC K9.out 4)
    |go_values|go_skip|go_guarded|refine wg ?_|go_step|go_upon)
   have hG6:=hlt G9.out;have hE6:=E9.out.size;refine (sD y.pi k.aG _ L9.out.pi (by omega)).mono ?_;rintro er W10 ⟨vc,rfl,ho,hb⟩;have K10:=nB hb K9;obtain ⟨P10,X10,N10,G10,E10,L10⟩:=n6 hb P9 X9 N9 G9 E9 L9;clear K9 P9 X9 N9 G9 E9 L9;clear hb kP4;have hne:k.aG ≠ []:=fun h=> by rw [h] at hjl;exact Nat.not_lt_zero _ hjl
   obtain ⟨gc,cap,cur2,rfl,hB,hrow⟩:=Own.row ho hne;clear ho hne;dsimp only;have hrc:=hrow.2;have hcap:=hrc.1;have hcsz:=hrc.2.2.1;have C10:=hU hrow.1;clear hrow;have hcs:∀ W:World,W.heap[gc]? =some (.cells cur2 191 (0,0))→SlPp W (.slice (some ⟨gc,0,none⟩) k.aG.length cap) k.aG:=fun W h=> KR.Own.sl fB (Row.own fB (cap:=cap) (cur:=cur2) ⟨h,hrc⟩ (Nat.zero_le gc))
   repeat' (first
    |(refine aP (t:=31) (v:=(.slice (some ⟨gc,0,none⟩) k.aG.length cap)) (off:=4) (new:=aJ {y with pi:=(.slice (some ⟨gc,0,none⟩) k.aG.length cap)} k) rfl rfl rfl rfl fK K10.out (hcs _ C10.out).jF (hcs _ C10.out).jW (show 4 + 1≤17 by decide) rfl ?_;intro W11 hp
      have L11:Hid (aH W11 {y with pi:=(.slice (some ⟨gc,0,none⟩) k.aG.length cap)} bs k):=hU ((L10.out.mJ (hcs _ C10.out)).put K10.out cI hp);have E11:=pK hp E10;have K11:Hid (W11.heap[b]? =some (.cells (aJ {y with pi:=(.slice (some ⟨gc,0,none⟩) k.aG.length cap)} k) 104 (0,0))):=pA hp;have P11:=pT hp K10 P10;have X11:=pT hp K10 X10;have N11:=pT hp K10 N10;have G11:=pT hp K10 G10;have C11:=pT hp K10 C10;clear hp;clear K10 P10 X10 N10 G10 C10 E10 L10)
    |go_values|go_skip|go_guarded|refine wg ?_|go_step|go_upon)
   refine wp_region_noPanic ?_;refine go0 (S:=fun W=> (W.cell? ⟨b,4,none⟩=some (.slice (some ⟨gc,0,none⟩) k.aG.length cap))∧(W.cell? ⟨abN,0,none⟩=some (.int .i64 d))∧(W.heap[abG]? =some (.cells np.cells 191 (0,0)))) [10] (⟨aC K11.out 4,aC N11.out 0,G11.out⟩) fun hS=> ?_;obtain ⟨W12,hWd⟩:=exW W11.drew;have K12:=dB hWd K11;have P12:=dB hWd P11;obtain ⟨X12,N12,G12,C12,E12,L12⟩:=n6 (dW hWd) X11 N11 G11 C11 E11 L11;rw [hWd] at hS ⊢;clear hWd;clear K11 P11 X11 N11 G11 C11 E11 L11;refine ts [.p 0,.p 1,.p 2,.p 3,.l 4,.p 5,.l 6,.p 7] ?_;refine tv 8 (.agg np.cells) (fun W hSW=> aR rfl rfl (aD iD hSW.2.2 rfl)) ?_;(try simp only [aF])
   refine tp 9 ?_;try simp only [aF]
   refine ro 10 fun K hK=> ?_;refine want rfl ?_;refine cL (v:=.agg np.cells) (off:=j * 3) (new:=(aQ cur2 (j * 3) np.cells)) rfl rfl rfl iD.size C12.out rfl (by omega) (qEj np) rfl ?_;intro W13 hp;have E13:=pE hp E12;have L13:Hid (aH W13 {y with pi:=(.slice (some ⟨gc,0,none⟩) k.aG.length cap)} bs {k with aG:=k.aG.set j np}):=hU (L12.out.qAa (qKh C12.out hrc hjl hp) C12.out hp);have C13:=pA hp;have K13:=pT hp C12 K12;have P13:=pT hp C12 P12;have X13:=pT hp C12 X12;have N13:=pT hp C12 N12;have G13:=pO hp G12;clear hp;clear K12 P12 X12 N12 G12 C12 E12 L12;refine nt hK ?_;clear hK K;try clear hS
   (try simp only [aF])
   refine aZ (by kernel_rfl) (NoPanic.normal ?_) _;try clear hS
   refine sg ?_;intros;refine wp_region_noPanic ?_;refine go0 (S:=fun W=> (W.cell? ⟨b,0,none⟩=some y.p)∧(W.heap[w.heap.size]? =some (.cells ({p with mem:=mm}:Proc).cells 121 (0,0)))) [11] (⟨aC K13.out 0,P13.out⟩) fun hS=> ?_;obtain ⟨W14,hWd⟩:=exW W13.drew;have K14:=dB hWd K13;have P14:=dB hWd P13;obtain ⟨X14,N14,G14,C14,E14,L14⟩:=n6 (dW hWd) X13 N13 G13 C13 E13 L13;rw [hWd] at hS ⊢;clear hWd;clear K13 P13 X13 N13 G13 C13 E13 L13;refine ts [.p 0,.p 1,.p 2,.p 3,.p 4,.l 5] ?_;refine tv 6 (.agg ({p with mem:=mm}:Proc).cells) (fun W hSW=> aR rfl rfl (aD aL hSW.2 rfl)) ?_;(try simp only [aF])
   refine ro 7 fun K hK=> ?_;refine want rfl ?_;go_simp;refine (uV y.p k.p ({p with mem:=mm}:Proc) _ L14.out.p (by omega)).mono ?_;rintro er W15 ⟨v6,rfl,ho,hb⟩;have K15:=nB hb K14;have P15:=nB hb P14;obtain ⟨X15,N15,G15,C15,E15,L15⟩:=n6 hb X14 N14 G14 C14 E14 L14;clear K14 P14 X14 N14 G14 C14 E14 L14;clear hb;have SP15:=hU (KR.Own.sl eE ho);dsimp only;try clear hS
   refine nx hK (⟨aC K15.out 0,P15.out⟩) fun hS=> ?_;clear hK K;(try simp only [aF])
   refine ts [.p 8,.p 9,.p 10] ?_;refine ro 11 fun K hK=> ?_;refine kRs v6 0 {y with pi:=(.slice (some ⟨gc,0,none⟩) k.aG.length cap),p:=v6} {k with aG:=k.aG.set j np,p:=put k.p ({p with mem:=mm}:Proc)} eY K15 E15 SP15 (L15.out.pZ SP15.out) fun W16 hp L16 E16 K16=> ?_;have P16:=pT hp K15 P15;have X16:=pT hp K15 X15;have N16:=pT hp K15 N15;have G16:=pT hp K15 G15;have C16:=pT hp K15 C15;have SP16:=hU (SP15.out.put K15.out hp (by decide));clear hp;clear K15 P15 X15 N15 G15 C15 E15 L15 SP15;refine nt hK ?_;clear hK K;try clear hS
   (try simp only [aF])
   refine aZ (by kernel_rfl) (NoPanic.normal ?_) _;try clear hS
   refine sg ?_;intros;go_ret2
   rw [HW3.out];exact ⟨congrArg (fun z=> Ending.returned (.tuple #[.int .u32 z,.int .i64 0])) (Int.emod_eq_of_lt (a:=(nv.size:Int)) (b:=4294967296) (by omega) (by omega)).symm,⟨_,_,K16.out,L16.out⟩,E16.out⟩
