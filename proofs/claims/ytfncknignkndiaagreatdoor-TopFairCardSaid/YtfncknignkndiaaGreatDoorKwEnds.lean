/- work.ends: a process ends. Conditions: as many as Go can hold; numbers are small. -/
import Derived.Test.YtfncknignkndiaaGreatDoorKwFresh
set_option linter.unusedVariables false
set_option maxRecDepth 100000
set_option maxHeartbeats 8000000
set_option linter.unusedSimpArgs false
namespace Go.Proofs.YtfncknignkndiaaGreatDoor
open Tryz
open Go.RowKit KR RegT3
namespace Kn
theorem qOg (b:Nat) (k:aI) (pid code why:Int) (w:World) (hk:cH w b k) (hn:k.p.length≤1000000) (ht:k.t.l.length≤1000000) (hsl:k.s.length≤1000000) (hpl:k.aG.length≤1000000) (hpb:PB 1000000 k.aG) (hhl:k.h.length≤1000000) (hw0:0≤why) (hw1:why≤1000):
 Calls prog 88 #[.pointer (some ⟨b,0,none⟩),.int .i64 pid,.int .i64 code,.int .i64 why] w (oY b (ends k pid code why) w):=by
 obtain ⟨y,bs,hk0,hl⟩:=hk;have hbl:=hlt hk0;have K0:Hid (w.heap[b]? =some (.cells (aJ y k) 104 (0,0))):=hU hk0;have E0:Hid (KR.Kept b w w):=hU (Kept.refl _ _);have L0:Hid (aH w y bs k):=hU hl;by_cases h1:pid=1
 · have hend:ends k pid code why={k with p:=[],t:=⟨[],0⟩,s:=[],aG:=[],h:=[],gone:=1 + why}:=if_pos h1;have hpb1:(pid==1)=true:=by simp [h1]
   have hww:IntKind.i64.wrap (1 + why)=1 + why:=by rw [IntKind.wrap_i64];omega
   rw [hend];clear hend;go_in
   repeat' (first
    |(refine kS 26 (.slice none 0 0) 0 {y with p:=.slice none 0 0} {k with p:=[]} eY K0 E0 (L0.out.pZ Sl.nil) fun W1 hp L1 E1 K1=> ?_
      clear hp;clear K0 E0 L0)
    |(refine sN 29 (.agg #[.slice none 0 0,.int .i64 0]) 1 (aJ {y with p:=.slice none 0 0,t:=.slice none 0 0} {k with p:=[],t:=⟨[],0⟩}) cM.size K1.out (uK (W:=w) Sl.nil) fun W2 hp=> ?_
      have L2:Hid (aH W2 {y with p:=.slice none 0 0,t:=.slice none 0 0} bs {k with p:=[],t:=⟨[],0⟩}):=hU ((L1.out.setT (t:=⟨[],0⟩) Sl.nil).put K1.out cI hp);have E2:=pK hp E1;have K2:Hid (W2.heap[b]? =some (.cells (aJ {y with p:=.slice none 0 0,t:=.slice none 0 0} {k with p:=[],t:=⟨[],0⟩}) 104 (0,0))):=pA hp;clear hp;clear K1 E1 L1)
    |(refine kS 30 (.slice none 0 0) 3 {y with p:=.slice none 0 0,t:=.slice none 0 0,s:=.slice none 0 0} {k with p:=[],t:=⟨[],0⟩,s:=[]} sG K2 E2 (L2.out.setS Sl.nil) fun W3 hp L3 E3 K3=> ?_
      clear hp;clear K2 E2 L2)
    |(refine kS 31 (.slice none 0 0) 4 {y with p:=.slice none 0 0,t:=.slice none 0 0,s:=.slice none 0 0,pi:=.slice none 0 0} {k with p:=[],t:=⟨[],0⟩,s:=[],aG:=[]} fK K3 E3 (L3.out.mJ Sl.nil) fun W4 hp L4 E4 K4=> ?_
      clear hp;clear K3 E3 L3)
    |(refine kS 32 (.slice none 0 0) 6 {y with p:=.slice none 0 0,t:=.slice none 0 0,s:=.slice none 0 0,pi:=.slice none 0 0,h:=.slice none 0 0} {k with p:=[],t:=⟨[],0⟩,s:=[],aG:=[],h:=[]} qAv K4 E4 (L4.out.setH Sl.nil) fun W5 hp L5 E5 K5=> ?_
      clear hp;clear K4 E4 L4)
    |(refine kS 3 (.int .i64 (1 + why)) 16 {y with p:=.slice none 0 0,t:=.slice none 0 0,s:=.slice none 0 0,pi:=.slice none 0 0,h:=.slice none 0 0} {k with p:=[],t:=⟨[],0⟩,s:=[],aG:=[],h:=[],gone:=1 + why} cO K5 E5 (L5.out.qEt (1 + why)) fun W6 hp L6 E6 K6=> ?_
      clear hp;clear K5 E5 L5)
    |go_values|go_skip|go_guarded|refine wg ?_|go_step|go_upon)
   (try simp only [Exit.inBlock,Exit.then]);refine bodyPost_ret (results_none rfl _ _ _) rfl ?_
   exact ⟨⟨_,rfl⟩,⟨_,_,K6.out,L6.out⟩,E6.out⟩
 obtain ⟨p,hp⟩:∃ p,(find k.p pid).getD Proc.zero=p:=⟨_,rfl⟩
 have hend:ends k pid code why=if ((find (dQ k.p pid 1) p.par).map (fun q=> q.st==4)).getD true=true then {k with aG:=eC k.aG p (-1),h:=gX k.h pid,t:=eZ k.t pid,s:=lY k.s pid,p:=remove (dQ k.p pid 1) pid} else {k with aG:=eC k.aG p (-1),h:=gX k.h pid,t:=eZ k.t pid,s:=lY k.s pid,p:=put (dQ k.p pid 1) (over p code)}:=by rw [ends,if_neg h1,hp]
 have HEND:=hU hend;have hpb1:(pid==1)=false:=by simp [h1]
 have HF:=oK y.p k.p pid w hl.p;rw [hp] at HF;clear hend hp;have kP:w.cell? ⟨b,0,none⟩=some y.p:=aC hk0 0;go_in;refine sg ?_;intros;refine HF.mono ?_;rintro er W1 ⟨rfl,hb⟩;obtain ⟨K1,E1,L1⟩:=n3 hb K0 E0 L0;clear K0 E0 L0;clear hb HF kP;dsimp only;obtain ⟨abQ,hab,hab1Q⟩:=nb0 E1;have habKQ:=nlt K1 hab;have hoffQ:=L1.out.p.dJ (Nat.le_of_eq hab);obtain ⟨W2,hWn,hba,Q2⟩:=nb1 (.cells zPr 121) hab;obtain ⟨K2,E2,L2⟩:=n3 hba K1 E1 L1;clear K1 E1 L1;clear hba
 repeat' (first
  |(rw [hWn,hab];clear hWn hab)
  |(refine sN 121 (.agg p.cells) 0 p.cells aL.size Q2.out (dK p) fun W3 hp=> ?_
    have E3:=pE hp E2;have L3:Hid (aH W3 y bs k):=hU (L2.out.dG (L2.out.p.dY hoffQ hp) Q2.out hp);have Q3:=pA hp;have K3:=pT hp Q2 K2;clear hp;clear K2 Q2 E2 L2)
  |(refine aE (t:=117) (v:=.agg (fV p.d0 p.e0 p.d1 p.e1 p.d2 p.e2 p.d3 p.e3)) rfl rfl rfl (cB jN (show _ from Q3.out) (o:=14) rfl rfl) ?_)
  |go_values|go_skip|go_guarded|refine wg ?_|go_step|go_upon)
 try clear hWn hab
 unfold fV;have hx0:=fun W=> idxFd0 p.d0 p.e0 p.d1 p.e1 p.d2 p.e2 p.d3 p.e3 W;have hx1:=fun W=> idxFd1 p.d0 p.e0 p.d1 p.e1 p.d2 p.e2 p.d3 p.e3 W;have hx2:=fun W=> idxFd2 p.d0 p.e0 p.d1 p.e1 p.d2 p.e2 p.d3 p.e3 W;have hx3:=fun W=> idxFd3 p.d0 p.e0 p.d1 p.e1 p.d2 p.e2 p.d3 p.e3 W;refine wp_loop_rounds 5 ?_;rw [rounds_succ];obtain ⟨abE0,hab,hab1E0⟩:=nb0 E3;have habKE0:=nlt K3 hab;have habQE0:=nlt Q3 hab;obtain ⟨W4,hWn,hba,E0_4⟩:=nb1 (.cells #[.int .i64 p.d0,.bool p.e0] 116) hab;obtain ⟨K4,Q4,E4,L4⟩:=n4 hba K3 Q3 E3 L3;clear K3 Q3 E3 L3;clear hba
 repeat' (first
  |(rw [hWn];clear hWn)
  |go_values|go_skip|go_guarded|refine wg ?_|go_step|go_upon)
 try rw [hab]
 clear hab;have hpb0:PB 1000001 (aM k.aG p.d0 p.e0 (-1)):=jT hpb _ _ _ (by decide) (by decide);have hpl0:(aM k.aG p.d0 p.e0 (-1)).length≤1000000:=by rw [fS];exact hpl
 refine wp_region_noPanic ?_;refine go0 (S:=fun W=> (W.cell? ⟨b,4,none⟩=some y.pi)∧(W.cell? ⟨abE0,0,none⟩=some (.int .i64 p.d0))∧(W.cell? ⟨abE0,1,none⟩=some (.bool p.e0))) [11] (⟨aC K4.out 4,aC E0_4.out 0,aC E0_4.out 1⟩) fun hS=> ?_;obtain ⟨W5,hWd⟩:=exW W4.drew;obtain ⟨K5,Q5,E0_5,E5,L5⟩:=n5 (dW hWd) K4 Q4 E0_4 E4 L4;rw [hWd] at hS ⊢;clear hWd;clear K4 Q4 E0_4 E4 L4;refine ts [.p 0,.p 1,.p 2,.p 3,.p 4,.l 5,.l 6] ?_;refine ro 7 fun K hK=> ?_;refine want rfl ?_;go_simp;refine (lZ y.pi k.aG p.d0 p.e0 (-1) _ L5.out.pi (by omega) (by decide) (hpb.big (by decide))).mono ?_;rintro er W6 ⟨v20,rfl,hpi,hb⟩;obtain ⟨K6,Q6,E0_6,E6,L6⟩:=n5 hb K5 Q5 E0_5 E5 L5;clear K5 Q5 E0_5 E5 L5;clear hb;have SPi6:=hU hpi;dsimp only;try clear hS
 refine nx hK (⟨aC K6.out 4,aC E0_6.out 0,aC E0_6.out 1⟩) fun hS=> ?_;clear hK K;(try simp only [aF])
 refine ts [.p 8,.p 9,.p 10] ?_;refine ro 11 fun K hK=> ?_;refine kRs v20 4 {y with pi:=v20} {k with aG:=(aM k.aG p.d0 p.e0 (-1))} fK K6 E6 SPi6 (L6.out.mJ SPi6.out) fun W7 hp L7 E7 K7=> ?_;have Q7:=pT hp K6 Q6;have E0_7:=pT hp K6 E0_6;have SPi7:=hU (SPi6.out.put K6.out hp (by decide));clear hp;clear K6 Q6 E0_6 E6 L6 SPi6;refine nt hK ?_;clear hK K;try clear hS
 (try simp only [aF])
 refine aZ (by kernel_rfl) (NoPanic.normal ?_) _;try clear hS
 clear SPi7;clear E0_7;refine sg ?_;intros;rw [rounds_succ];obtain ⟨abE1,hab,hab1E1⟩:=nb0 E7;have habKE1:=nlt K7 hab;have habQE1:=nlt Q7 hab;obtain ⟨W8,hWn,hba,E1_8⟩:=nb1 (.cells #[.int .i64 p.d1,.bool p.e1] 116) hab;obtain ⟨K8,Q8,E8,L8⟩:=n4 hba K7 Q7 E7 L7;clear K7 Q7 E7 L7;clear hba
 repeat' (first
  |(rw [hWn];clear hWn)
  |go_values|go_skip|go_guarded|refine wg ?_|go_step|go_upon)
 try rw [hab]
 clear hab;have hpb1:PB 1000002 (aM (aM k.aG p.d0 p.e0 (-1)) p.d1 p.e1 (-1)):=jT hpb0 _ _ _ (by decide) (by decide);have hpl1:(aM (aM k.aG p.d0 p.e0 (-1)) p.d1 p.e1 (-1)).length≤1000000:=by rw [fS];exact hpl0
 refine wp_region_noPanic ?_;refine go0 (S:=fun W=> (W.cell? ⟨b,4,none⟩=some v20)∧(W.cell? ⟨abE1,0,none⟩=some (.int .i64 p.d1))∧(W.cell? ⟨abE1,1,none⟩=some (.bool p.e1))) [11] (⟨aC K8.out 4,aC E1_8.out 0,aC E1_8.out 1⟩) fun hS=> ?_;obtain ⟨W9,hWd⟩:=exW W8.drew;obtain ⟨K9,Q9,E1_9,E9,L9⟩:=n5 (dW hWd) K8 Q8 E1_8 E8 L8;rw [hWd] at hS ⊢;clear hWd;clear K8 Q8 E1_8 E8 L8;refine ts [.p 0,.p 1,.p 2,.p 3,.p 4,.l 5,.l 6] ?_;refine ro 7 fun K hK=> ?_;refine want rfl ?_;go_simp;refine (lZ v20 (aM k.aG p.d0 p.e0 (-1)) p.d1 p.e1 (-1) _ L9.out.pi (by omega) (by decide) (hpb0.big (by decide))).mono ?_;rintro er W10 ⟨v21,rfl,hpi,hb⟩;obtain ⟨K10,Q10,E1_10,E10,L10⟩:=n5 hb K9 Q9 E1_9 E9 L9;clear K9 Q9 E1_9 E9 L9;clear hb;have SPi10:=hU hpi;dsimp only;try clear hS
 refine nx hK (⟨aC K10.out 4,aC E1_10.out 0,aC E1_10.out 1⟩) fun hS=> ?_;clear hK K;(try simp only [aF])
 refine ts [.p 8,.p 9,.p 10] ?_;refine ro 11 fun K hK=> ?_;refine kRs v21 4 {y with pi:=v21} {k with aG:=(aM (aM k.aG p.d0 p.e0 (-1)) p.d1 p.e1 (-1))} fK K10 E10 SPi10 (L10.out.mJ SPi10.out) fun W11 hp L11 E11 K11=> ?_;have Q11:=pT hp K10 Q10;have E1_11:=pT hp K10 E1_10;have SPi11:=hU (SPi10.out.put K10.out hp (by decide));clear hp;clear K10 Q10 E1_10 E10 L10 SPi10;refine nt hK ?_;clear hK K;try clear hS
 (try simp only [aF])
 refine aZ (by kernel_rfl) (NoPanic.normal ?_) _;try clear hS
 clear SPi11;clear E1_11;refine sg ?_;intros;rw [rounds_succ];obtain ⟨abE2,hab,hab1E2⟩:=nb0 E11;have habKE2:=nlt K11 hab;have habQE2:=nlt Q11 hab;obtain ⟨W12,hWn,hba,E2_12⟩:=nb1 (.cells #[.int .i64 p.d2,.bool p.e2] 116) hab;obtain ⟨K12,Q12,E12,L12⟩:=n4 hba K11 Q11 E11 L11;clear K11 Q11 E11 L11;clear hba
 repeat' (first
  |(rw [hWn];clear hWn)
  |go_values|go_skip|go_guarded|refine wg ?_|go_step|go_upon)
 try rw [hab]
 clear hab;have hpb2:PB 1000003 (aM (aM (aM k.aG p.d0 p.e0 (-1)) p.d1 p.e1 (-1)) p.d2 p.e2 (-1)):=jT hpb1 _ _ _ (by decide) (by decide);have hpl2:(aM (aM (aM k.aG p.d0 p.e0 (-1)) p.d1 p.e1 (-1)) p.d2 p.e2 (-1)).length≤1000000:=by rw [fS];exact hpl1
 refine wp_region_noPanic ?_;refine go0 (S:=fun W=> (W.cell? ⟨b,4,none⟩=some v21)∧(W.cell? ⟨abE2,0,none⟩=some (.int .i64 p.d2))∧(W.cell? ⟨abE2,1,none⟩=some (.bool p.e2))) [11] (⟨aC K12.out 4,aC E2_12.out 0,aC E2_12.out 1⟩) fun hS=> ?_;obtain ⟨W13,hWd⟩:=exW W12.drew;obtain ⟨K13,Q13,E2_13,E13,L13⟩:=n5 (dW hWd) K12 Q12 E2_12 E12 L12;rw [hWd] at hS ⊢;clear hWd;clear K12 Q12 E2_12 E12 L12;refine ts [.p 0,.p 1,.p 2,.p 3,.p 4,.l 5,.l 6] ?_;refine ro 7 fun K hK=> ?_;refine want rfl ?_;go_simp;refine (lZ v21 (aM (aM k.aG p.d0 p.e0 (-1)) p.d1 p.e1 (-1)) p.d2 p.e2 (-1) _ L13.out.pi (by omega) (by decide) (hpb1.big (by decide))).mono ?_;rintro er W14 ⟨v22,rfl,hpi,hb⟩;obtain ⟨K14,Q14,E2_14,E14,L14⟩:=n5 hb K13 Q13 E2_13 E13 L13;clear K13 Q13 E2_13 E13 L13;clear hb;have SPi14:=hU hpi;dsimp only;try clear hS
 refine nx hK (⟨aC K14.out 4,aC E2_14.out 0,aC E2_14.out 1⟩) fun hS=> ?_;clear hK K;(try simp only [aF])
 refine ts [.p 8,.p 9,.p 10] ?_;refine ro 11 fun K hK=> ?_;refine kRs v22 4 {y with pi:=v22} {k with aG:=(aM (aM (aM k.aG p.d0 p.e0 (-1)) p.d1 p.e1 (-1)) p.d2 p.e2 (-1))} fK K14 E14 SPi14 (L14.out.mJ SPi14.out) fun W15 hp L15 E15 K15=> ?_;have Q15:=pT hp K14 Q14;have E2_15:=pT hp K14 E2_14;have SPi15:=hU (SPi14.out.put K14.out hp (by decide));clear hp;clear K14 Q14 E2_14 E14 L14 SPi14;refine nt hK ?_;clear hK K;try clear hS
 (try simp only [aF])
 refine aZ (by kernel_rfl) (NoPanic.normal ?_) _;try clear hS
 clear SPi15;clear E2_15;refine sg ?_;intros;rw [rounds_succ];obtain ⟨abE3,hab,hab1E3⟩:=nb0 E15;have habKE3:=nlt K15 hab;have habQE3:=nlt Q15 hab;obtain ⟨W16,hWn,hba,E3_16⟩:=nb1 (.cells #[.int .i64 p.d3,.bool p.e3] 116) hab;obtain ⟨K16,Q16,E16,L16⟩:=n4 hba K15 Q15 E15 L15;clear K15 Q15 E15 L15;clear hba
 repeat' (first
  |(rw [hWn];clear hWn)
  |go_values|go_skip|go_guarded|refine wg ?_|go_step|go_upon)
 try rw [hab]
 clear hab;have hpb3:PB 1000004 (aM (aM (aM (aM k.aG p.d0 p.e0 (-1)) p.d1 p.e1 (-1)) p.d2 p.e2 (-1)) p.d3 p.e3 (-1)):=jT hpb2 _ _ _ (by decide) (by decide);have hpl3:(aM (aM (aM (aM k.aG p.d0 p.e0 (-1)) p.d1 p.e1 (-1)) p.d2 p.e2 (-1)) p.d3 p.e3 (-1)).length≤1000000:=by rw [fS];exact hpl2
 refine wp_region_noPanic ?_;refine go0 (S:=fun W=> (W.cell? ⟨b,4,none⟩=some v22)∧(W.cell? ⟨abE3,0,none⟩=some (.int .i64 p.d3))∧(W.cell? ⟨abE3,1,none⟩=some (.bool p.e3))) [11] (⟨aC K16.out 4,aC E3_16.out 0,aC E3_16.out 1⟩) fun hS=> ?_;obtain ⟨W17,hWd⟩:=exW W16.drew;obtain ⟨K17,Q17,E3_17,E17,L17⟩:=n5 (dW hWd) K16 Q16 E3_16 E16 L16;rw [hWd] at hS ⊢;clear hWd;clear K16 Q16 E3_16 E16 L16;refine ts [.p 0,.p 1,.p 2,.p 3,.p 4,.l 5,.l 6] ?_;refine ro 7 fun K hK=> ?_;refine want rfl ?_;go_simp;refine (lZ v22 (aM (aM (aM k.aG p.d0 p.e0 (-1)) p.d1 p.e1 (-1)) p.d2 p.e2 (-1)) p.d3 p.e3 (-1) _ L17.out.pi (by omega) (by decide) (hpb2.big (by decide))).mono ?_;rintro er W18 ⟨v23,rfl,hpi,hb⟩;obtain ⟨K18,Q18,E3_18,E18,L18⟩:=n5 hb K17 Q17 E3_17 E17 L17;clear K17 Q17 E3_17 E17 L17;clear hb;have SPi18:=hU hpi;dsimp only;try clear hS
 refine nx hK (⟨aC K18.out 4,aC E3_18.out 0,aC E3_18.out 1⟩) fun hS=> ?_;clear hK K;(try simp only [aF])
 refine ts [.p 8,.p 9,.p 10] ?_;refine ro 11 fun K hK=> ?_;refine kRs v23 4 {y with pi:=v23} {k with aG:=(aM (aM (aM (aM k.aG p.d0 p.e0 (-1)) p.d1 p.e1 (-1)) p.d2 p.e2 (-1)) p.d3 p.e3 (-1))} fK K18 E18 SPi18 (L18.out.mJ SPi18.out) fun W19 hp L19 E19 K19=> ?_;have Q19:=pT hp K18 Q18;have E3_19:=pT hp K18 E3_18;have SPi19:=hU (SPi18.out.put K18.out hp (by decide));clear hp;clear K18 Q18 E3_18 E18 L18 SPi18;refine nt hK ?_;clear hK K;try clear hS
 (try simp only [aF])
 refine aZ (by kernel_rfl) (NoPanic.normal ?_) _;try clear hS
 clear SPi19;clear E3_19;refine sg ?_;intros;rw [rounds_succ]
 repeat' (first
  |(refine sN 117 (.agg #[.int .i64 0,.bool false,.int .i64 0,.bool false,.int .i64 0,.bool false,.int .i64 0,.bool false]) 14 (({p with d0:=0,e0:=false,d1:=0,e1:=false,d2:=0,e2:=false,d3:=0,e3:=false}:Proc).cells) jN.size Q19.out qZw fun W20 hp=> ?_
    have E20:=pE hp E19;have L20:Hid (aH W20 {y with pi:=v23} bs {k with aG:=(aM (aM (aM (aM k.aG p.d0 p.e0 (-1)) p.d1 p.e1 (-1)) p.d2 p.e2 (-1)) p.d3 p.e3 (-1))}):=hU (L19.out.dG (L19.out.p.dY hoffQ hp) Q19.out hp);have Q20:=pA hp;have K20:=pT hp Q19 K19;clear hp;clear K19 Q19 E19 L19)
  |go_values|go_skip|go_guarded|refine wg ?_|go_step|go_upon)
 refine wp_region_noPanic ?_;refine go0 (S:=fun W=> (W.cell? ⟨b,5,none⟩=some (.int .i64 k.hs))∧(W.cell? ⟨b,6,none⟩=some y.h)∧(W.cell? ⟨b,1,none⟩=some y.t)∧(W.cell? ⟨b,2,none⟩=some (.int .i64 k.t.left))∧(W.cell? ⟨b,3,none⟩=some y.s)) [27,31,35] (⟨aC K20.out 5,aC K20.out 6,aC K20.out 1,aC K20.out 2,aC K20.out 3⟩) fun hS=> ?_;obtain ⟨W21,hWd⟩:=exW W20.drew;obtain ⟨K21,Q21,E21,L21⟩:=n4 (dW hWd) K20 Q20 E20 L20;rw [hWd] at hS ⊢;clear hWd;clear K20 Q20 E20 L20;refine ts [.p 0,.p 1,.p 2,.p 3,.p 4,.p 5,.p 6,.l 7,.p 8,.p 10,.p 11,.p 12,.p 13,.l 14,.p 15,.p 17,.p 18,.p 19,.p 20,.l 21,.p 22] ?_;refine ro 9 fun K hK=> ?_;refine want rfl ?_;go_simp;refine (qYk y.h k.hs k.h pid _ L21.out.h (by omega)).mono ?_;rintro er W22 ⟨u9,rfl,hsh,hb⟩;obtain ⟨K22,Q22,E22,L22⟩:=n4 hb K21 Q21 E21 L21;clear K21 Q21 E21 L21;clear hb;have SH22:=hU hsh;dsimp only;try clear hS
 refine nx hK (⟨aC K22.out 5,aC K22.out 6,aC K22.out 1,aC K22.out 2,aC K22.out 3⟩) fun hS=> ?_;clear hK K;(try simp only [aF])
 refine ro 16 fun K hK=> ?_;refine want rfl ?_;go_simp;refine (qUe _ k.t pid _ ⟨y.t,rfl,L22.out.t⟩ (by omega)).mono ?_;rintro er W23 ⟨v16,rfl,⟨u16,rfl,ht16⟩,hb⟩;obtain ⟨K23,Q23,E23,L23⟩:=n4 hb K22 Q22 E22 L22;have SH23:=hU (SH22.out.below hb);clear K22 Q22 E22 L22 SH22;clear hb;have ST23:=hU ht16;dsimp only;try clear hS
 refine nx hK (⟨aC K23.out 5,aC K23.out 6,aC K23.out 1,aC K23.out 2,aC K23.out 3⟩) fun hS=> ?_;clear hK K;(try simp only [aF])
 refine ro 23 fun K hK=> ?_;refine want rfl ?_;go_simp;refine (qYv y.s k.s pid _ L23.out.s (by omega)).mono ?_;rintro er W24 ⟨vs9,rfl,ho,hb⟩;obtain ⟨K24,Q24,E24,L24⟩:=n4 hb K23 Q23 E23 L23;have SH24:=hU (SH23.out.below hb);have ST24:=hU (ST23.out.below hb);clear K23 Q23 E23 L23 SH23 ST23;clear hb;have SS24:=hU (KR.Own.sl pR ho);dsimp only;try clear hS
 refine nx hK (⟨aC K24.out 5,aC K24.out 6,aC K24.out 1,aC K24.out 2,aC K24.out 3⟩) fun hS=> ?_;clear hK K;(try simp only [aF])
 refine ts [.p 24,.p 25,.p 26] ?_;refine ro 27 fun K hK=> ?_;refine want rfl ?_;refine cL (v:=.agg #[.int .i64 k.hs,u9]) (off:=5) (new:=aJ {y with pi:=v23,h:=u9} {k with aG:=eC k.aG p (-1),h:=gX k.h pid}) rfl rfl rfl iC.size K24.out rfl (show 5 + 2≤17 by decide) (qPs SH24.out) rfl ?_;intro W25 hp;have L25:Hid (aH W25 {y with pi:=v23,h:=u9} bs {k with aG:=eC k.aG p (-1),h:=gX k.h pid}):=hU ((L24.out.setH SH24.out).put K24.out cI hp);have E25:=pK hp E24;have K25:Hid (W25.heap[b]? =some (.cells (aJ {y with pi:=v23,h:=u9} {k with aG:=eC k.aG p (-1),h:=gX k.h pid}) 104 (0,0))):=pA hp;have Q25:=pT hp K24 Q24;have SH25:=hU (SH24.out.put K24.out hp (by decide));have ST25:=hU (ST24.out.put K24.out hp (by decide));have SS25:=hU (SS24.out.put K24.out hp (by decide));clear hp;clear K24 Q24 E24 L24 SH24 ST24 SS24;refine nt hK ?_;clear hK K;try clear hS
 (try simp only [aF])
 refine ts [.p 28,.p 29,.p 30] ?_;refine ro 31 fun K hK=> ?_;refine want rfl ?_;refine cL (v:=.agg #[u16,.int .i64 (eZ k.t pid).left]) (off:=1) (new:=aJ {y with pi:=v23,h:=u9,t:=u16} {k with aG:=eC k.aG p (-1),h:=gX k.h pid,t:=eZ k.t pid}) rfl rfl rfl cM.size K25.out rfl (show 1 + 2≤17 by decide) (uK ST25.out) rfl ?_;intro W26 hp;have L26:Hid (aH W26 {y with pi:=v23,h:=u9,t:=u16} bs {k with aG:=eC k.aG p (-1),h:=gX k.h pid,t:=eZ k.t pid}):=hU ((L25.out.setT ST25.out).put K25.out cI hp);have E26:=pK hp E25;have K26:Hid (W26.heap[b]? =some (.cells (aJ {y with pi:=v23,h:=u9,t:=u16} {k with aG:=eC k.aG p (-1),h:=gX k.h pid,t:=eZ k.t pid}) 104 (0,0))):=pA hp;have Q26:=pT hp K25 Q25;have SH26:=hU (SH25.out.put K25.out hp (by decide));have ST26:=hU (ST25.out.put K25.out hp (by decide));have SS26:=hU (SS25.out.put K25.out hp (by decide));clear hp;clear K25 Q25 E25 L25 SH25 ST25 SS25;refine nt hK ?_;clear hK K;try clear hS
 (try simp only [aF])
 refine ts [.p 32,.p 33,.p 34] ?_;refine ro 35 fun K hK=> ?_;refine kRs vs9 3 {y with pi:=v23,h:=u9,t:=u16,s:=vs9} {k with aG:=eC k.aG p (-1),h:=gX k.h pid,t:=eZ k.t pid,s:=lY k.s pid} sG K26 E26 SS26 (L26.out.setS SS26.out) fun W27 hp L27 E27 K27=> ?_;have Q27:=pT hp K26 Q26;have SH27:=hU (SH26.out.put K26.out hp (by decide));have ST27:=hU (ST26.out.put K26.out hp (by decide));have SS27:=hU (SS26.out.put K26.out hp (by decide));clear hp;clear K26 Q26 E26 L26 SH26 ST26 SS26;refine nt hK ?_;clear hK K;try clear hS
 (try simp only [aF])
 refine aZ (by kernel_rfl) (NoPanic.normal ?_) _;try clear hS
 clear SH27;clear ST27;clear SS27;have kP2:W27.cell? ⟨b,0,none⟩=some y.p:=aC K27.out 0;refine sg ?_;intros;have hQ11:=hlt Q27.out;refine (qVt y.p k.p pid 1 _ L27.out.p (by omega)).mono ?_;rintro er W28 ⟨va,rfl,ho,hb⟩;have hoffA:=Own.off ho hQ11;obtain ⟨K28,Q28,E28,L28⟩:=n4 hb K27 Q27 E27 L27;clear K27 Q27 E27 L27;have SA28:=hU (KR.Own.sl eE ho);clear hb ho hQ11 kP2;dsimp only;obtain ⟨l,hla⟩:∃ l,dQ k.p pid 1=l:=⟨_,rfl⟩
 rw [hla] at SA28 hoffA HEND;have hll:l.length=k.p.length:=by rw [← hla];exact List.length_map _
 have hlb:l.length≤1000000:=by omega
 clear hla hll
 repeat' (first
  |(refine kSs 26 va 0 {y with pi:=v23,h:=u9,t:=u16,s:=vs9,p:=va} {k with aG:=eC k.aG p (-1),h:=gX k.h pid,t:=eZ k.t pid,s:=lY k.s pid,p:=l} eY K28 E28 SA28 (L28.out.pZ SA28.out) fun W29 hp L29 E29 K29=> ?_
    have Q29:=pT hp K28 Q28;have SA29:=hU (SA28.out.put K28.out hp (by decide));clear hp;clear K28 Q28 E28 L28 SA28)
  |go_values|go_skip|go_guarded|refine wg ?_|go_step|go_upon)
 clear SA29;obtain ⟨q,hq⟩:∃ q,(find l p.par).getD Proc.zero=q:=⟨_,rfl⟩
 obtain ⟨f,hf⟩:∃ f,(find l p.par).isSome=f:=⟨_,rfl⟩
 have hcond:((find l p.par).map (fun q=> q.st==4)).getD true=(!f||q.st==4):=by rw [← hq,← hf];cases find l p.par <;> rfl
 rw [hcond] at HEND;have HQF:Hid (∀ W,SlP W va l→Calls prog 81 #[va,.int .i64 p.par] W (aN (.tuple #[.agg q.cells,.bool f]) W)):=hU (fun W hW=> by rw [← hq,← hf];exact oK va l p.par W hW);clear hcond hq hf;refine wp_region_noPanic ?_;refine go0 (S:=fun W=> (W.cell? ⟨b,0,none⟩=some va)∧(W.cell? ⟨abQ,1,none⟩=some (.int .i64 p.par))) [12] (⟨aC K29.out 0,aC Q29.out 1⟩) fun hS=> ?_;obtain ⟨W30,hWd⟩:=exW W29.drew;obtain ⟨K30,Q30,E30,L30⟩:=n4 (dW hWd) K29 Q29 E29 L29;rw [hWd] at hS ⊢;clear hWd;clear K29 Q29 E29 L29;refine ts [.p 0,.p 1,.p 2,.p 3,.l 4,.p 5,.l 6] ?_;refine oT (i:=7) (j:=11) (by kernel_rfl) rfl rfl (fun K hK=> ?_) (fun K hK=> ?_);refine want rfl ?_;go_simp;refine (HQF.out _ L30.out.p).mono ?_;rintro er W31 ⟨rfl,hb⟩;obtain ⟨K31,Q31,E31,L31⟩:=n4 hb K30 Q30 E30 L30;clear K30 Q30 E30 L30;clear hb;dsimp only;try clear hS
 refine nx hK (⟨aC K31.out 0,aC Q31.out 1⟩) fun hS=> ?_;clear hK K;(try simp only [aF])
 refine ts [.p 8,.p 9,.p 10] ?_;refine ro 11 fun K hK=> ?_;obtain ⟨abR,hab,hab1⟩:=nb0 E31;have habK:=nlt K31 hab;have habQ:=nlt Q31 hab;have hoffR:=L31.out.p.dJ (Nat.le_of_eq hab);go_simp;obtain ⟨W32,hWn,hba,R32⟩:=nb1 (.cells zPr 121) hab;rw [hWn];clear hWn;obtain ⟨K32,Q32,E32,L32⟩:=n4 hba K31 Q31 E31 L31;clear K31 Q31 E31 L31;clear hba;try rw [hab]
 clear hab;try clear hS
 refine nx hK (⟨aC K32.out 0,aC Q32.out 1⟩) fun hS=> ?_;clear hK K;(try simp only [aF])
 rotate_left
 obtain ⟨abR,hab,hab1⟩:=nb0 E30;have habK:=nlt K30 hab;have habQ:=nlt Q30 hab;have hoffR:=L30.out.p.dJ (Nat.le_of_eq hab);go_simp;obtain ⟨W31,hWn,hba,R31⟩:=nb1 (.cells zPr 121) hab;rw [hWn];clear hWn;obtain ⟨K31,Q31,E31,L31⟩:=n4 hba K30 Q30 E30 L30;clear K30 Q30 E30 L30;clear hba;try rw [hab]
 clear hab;try clear hS
 refine nx hK (⟨aC K31.out 0,aC Q31.out 1⟩) fun hS=> ?_;clear hK K;(try simp only [aF])
 refine ro 7 fun K hK=> ?_;refine want rfl ?_;go_simp;refine (HQF.out _ L31.out.p).mono ?_;rintro er W32 ⟨rfl,hb⟩;obtain ⟨K32,Q32,R32,E32,L32⟩:=n5 hb K31 Q31 R31 E31 L31;clear K31 Q31 R31 E31 L31;clear hb;dsimp only;try clear hS
 refine nx hK (⟨aC K32.out 0,aC Q32.out 1⟩) fun hS=> ?_;clear hK K;(try simp only [aF])
 refine ts [.p 8,.p 9,.p 10] ?_
 all_goals
  refine ro 12 fun K hK=> ?_;refine want rfl ?_;refine cL (v:=.agg q.cells) (off:=0) (new:=q.cells) rfl rfl rfl aL.size R32.out rfl (show 0 + 26≤26 by decide) (dK q) rfl ?_;intro W33 hp;have E33:=pE hp E32;have L33:Hid (aH W33 {y with pi:=v23,h:=u9,t:=u16,s:=vs9,p:=va} bs {k with aG:=eC k.aG p (-1),h:=gX k.h pid,t:=eZ k.t pid,s:=lY k.s pid,p:=l}):=hU (L32.out.dG (L32.out.p.dY hoffR hp) R32.out hp);have R33:=pA hp;have K33:=pT hp R32 K32;have Q33:=pO hp Q32;clear hp;clear K32 Q32 R32 E32 L32;refine nt hK ?_;clear hK K;try clear hS
  (try simp only [aF])
  refine ro 13 fun K hK=> ?_;go_simp;refine nb hK ?_;clear hK K;(try simp only [aF])
  refine aZ (by kernel_rfl) (NoPanic.normal ?_) _;try clear hS
  have kP3:W33.cell? ⟨b,0,none⟩=some va:=aC K33.out 0;have kR2:W33.cell? ⟨abR,2,none⟩=some (.int .i64 q.st):=aC R33.out 2;cases f
  · have HE2:=HEND.out;rw [if_pos (by rfl)] at HE2;clear HEND;refine sg ?_;intros;refine (qDp va l pid _ L33.out.p (by omega)).mono ?_;rintro er W34 ⟨vz,rfl,ho,hb⟩;obtain ⟨K34,Q34,R34,E34,L34⟩:=n5 hb K33 Q33 R33 E33 L33;clear K33 Q33 R33 E33 L33;have SZ34:=hU (KR.Own.sl eE ho);clear hb ho;dsimp only
    repeat' (first
     |(refine kSs 26 vz 0 {y with pi:=v23,h:=u9,t:=u16,s:=vs9,p:=vz} {k with aG:=eC k.aG p (-1),h:=gX k.h pid,t:=eZ k.t pid,s:=lY k.s pid,p:=remove l pid} eY K34 E34 SZ34 (L34.out.pZ SZ34.out) fun W35 hp L35 E35 K35=> ?_
       have Q35:=pT hp K34 Q34;have R35:=pT hp K34 R34;have SZ35:=hU (SZ34.out.put K34.out hp (by decide));clear hp;clear K34 Q34 R34 E34 L34 SZ34)
     |go_values|go_skip|go_guarded|refine wg ?_|go_step|go_upon)
    (try simp only [Exit.inBlock,Exit.then]);refine bodyPost_ret (results_none rfl _ _ _) rfl ?_
    rw [HE2];exact ⟨⟨_,rfl⟩,⟨_,_,K35.out,L35.out⟩,E35.out⟩
  by_cases h4:q.st=4
  · have HE2:=HEND.out;rw [if_pos (by simp [h4])] at HE2;have h4b:(q.st==4)=true:=by simp [h4]
    clear HEND h4;refine sg ?_;intros;refine (qDp va l pid _ L33.out.p (by omega)).mono ?_;rintro er W34 ⟨vz,rfl,ho,hb⟩;obtain ⟨K34,Q34,R34,E34,L34⟩:=n5 hb K33 Q33 R33 E33 L33;clear K33 Q33 R33 E33 L33;have SZ34:=hU (KR.Own.sl eE ho);clear hb ho;dsimp only
    repeat' (first
     |(refine kSs 26 vz 0 {y with pi:=v23,h:=u9,t:=u16,s:=vs9,p:=vz} {k with aG:=eC k.aG p (-1),h:=gX k.h pid,t:=eZ k.t pid,s:=lY k.s pid,p:=remove l pid} eY K34 E34 SZ34 (L34.out.pZ SZ34.out) fun W35 hp L35 E35 K35=> ?_
       have Q35:=pT hp K34 Q34;have R35:=pT hp K34 R34;have SZ35:=hU (SZ34.out.put K34.out hp (by decide));clear hp;clear K34 Q34 R34 E34 L34 SZ34)
     |go_values|go_skip|go_guarded|refine wg ?_|go_step|go_upon)
    (try simp only [Exit.inBlock,Exit.then]);refine bodyPost_ret (results_none rfl _ _ _) rfl ?_
    rw [HE2];exact ⟨⟨_,rfl⟩,⟨_,_,K35.out,L35.out⟩,E35.out⟩
  have HE2:=HEND.out;rw [if_neg (by simp [h4])] at HE2;have h4b:(q.st==4)=false:=by simp [h4]
  clear HEND h4
  repeat' (first
   |(refine aP (t:=3) (v:=.int .i64 4) (off:=2) (new:=({p with d0:=0,e0:=false,d1:=0,e1:=false,d2:=0,e2:=false,d3:=0,e3:=false,st:=4}:Proc).cells) rfl rfl rfl rfl cO Q33.out rfl rfl (show 2 + 1≤26 by decide) rfl ?_;intro W34 hp
     have E34:=pE hp E33;have L34:Hid (aH W34 {y with pi:=v23,h:=u9,t:=u16,s:=vs9,p:=va} bs {k with aG:=eC k.aG p (-1),h:=gX k.h pid,t:=eZ k.t pid,s:=lY k.s pid,p:=l}):=hU (L33.out.dG (L33.out.p.dY hoffA hp) Q33.out hp);have Q34:=pA hp;have K34:=pT hp Q33 K33;have R34:=pO hp R33;clear hp;clear K33 Q33 R33 E33 L33)
   |(refine aP (t:=3) (v:=.int .i64 code) (off:=13) (new:=(over p code).cells) rfl rfl rfl rfl cO Q34.out rfl rfl (show 13 + 1≤26 by decide) rfl ?_;intro W35 hp
     have E35:=pE hp E34;have L35:Hid (aH W35 {y with pi:=v23,h:=u9,t:=u16,s:=vs9,p:=va} bs {k with aG:=eC k.aG p (-1),h:=gX k.h pid,t:=eZ k.t pid,s:=lY k.s pid,p:=l}):=hU (L34.out.dG (L34.out.p.dY hoffA hp) Q34.out hp);have Q35:=pA hp;have K35:=pT hp Q34 K34;have R35:=pO hp R34;clear hp;clear K34 Q34 R34 E34 L34)
   |go_values|go_skip|go_guarded|refine wg ?_|go_step|go_upon)
  refine wp_region_noPanic ?_;refine go0 (S:=fun W=> (W.cell? ⟨b,0,none⟩=some va)∧(W.heap[abQ]? =some (.cells (over p code).cells 121 (0,0)))) [11] (⟨aC K35.out 0,Q35.out⟩) fun hS=> ?_;obtain ⟨W36,hWd⟩:=exW W35.drew;obtain ⟨K36,Q36,R36,E36,L36⟩:=n5 (dW hWd) K35 Q35 R35 E35 L35;rw [hWd] at hS ⊢;clear hWd;clear K35 Q35 R35 E35 L35;refine ts [.p 0,.p 1,.p 2,.p 3,.p 4,.l 5] ?_;refine tv 6 (.agg (over p code).cells) (fun W hSW=> aR rfl rfl (aD aL hSW.2 rfl)) ?_;(try simp only [aF])
  refine ro 7 fun K hK=> ?_;refine want rfl ?_;go_simp;refine (uV va l (over p code) _ L36.out.p (by omega)).mono ?_;rintro er W37 ⟨vz,rfl,ho,hb⟩;obtain ⟨K37,Q37,R37,E37,L37⟩:=n5 hb K36 Q36 R36 E36 L36;clear K36 Q36 R36 E36 L36;clear hb;have SZ37:=hU (KR.Own.sl eE ho);dsimp only;try clear hS
  refine nx hK (⟨aC K37.out 0,Q37.out⟩) fun hS=> ?_;clear hK K;(try simp only [aF])
  refine ts [.p 8,.p 9,.p 10] ?_;refine ro 11 fun K hK=> ?_;refine kRs vz 0 {y with pi:=v23,h:=u9,t:=u16,s:=vs9,p:=vz} {k with aG:=eC k.aG p (-1),h:=gX k.h pid,t:=eZ k.t pid,s:=lY k.s pid,p:=put l (over p code)} eY K37 E37 SZ37 (L37.out.pZ SZ37.out) fun W38 hp L38 E38 K38=> ?_;have Q38:=pT hp K37 Q37;have R38:=pT hp K37 R37;have SZ38:=hU (SZ37.out.put K37.out hp (by decide));clear hp;clear K37 Q37 R37 E37 L37 SZ37;refine nt hK ?_;clear hK K;try clear hS
  (try simp only [aF])
  refine aZ (by kernel_rfl) (NoPanic.normal ?_) _;try clear hS
  refine sg ?_;intros;(try simp only [Exit.inBlock,Exit.then]);refine bodyPost_ret (results_none rfl _ _ _) rfl ?_
  rw [HE2];exact ⟨⟨_,rfl⟩,⟨_,_,K38.out,L38.out⟩,E38.out⟩
