/- kern.closes. Conditions: as many as Go can hold; a word's number. -/
import Derived.Test.YtfncknignkndiaaGreatDoorKwFresh
import Derived.Test.YtfncknignkndiaaGreatDoorGEnd
set_option linter.unusedVariables false
set_option maxRecDepth 100000
set_option maxHeartbeats 8000000
set_option linter.unusedSimpArgs false
namespace Go.Proofs.YtfncknignkndiaaGreatDoor
open Tryz
open Go.RowKit KR RegT3
namespace Kn
theorem qRo (b:Nat) (k:aI) (p:Proc) (x:Call) (w:World) (hk:cH w b k) (hn:k.p.length≤1000000) (hpl:k.aG.length≤1000000) (hpb:PB 1000000 k.aG) (ha0:0≤x.a) (ha1:x.a<4294967296):
 Calls prog 179 #[.pointer (some ⟨b,0,none⟩),.agg p.cells,.agg x.cells] w (eN b (.tuple #[.int .u32 (gM k p x).v,.int .i64 (gM k p x).e]) (gM k p x).k w):=by
 obtain ⟨y,bs,hk0,hl⟩:=hk;have hbl:=hlt hk0;obtain ⟨W0,hW0,K0,P0,X0,E0,L0,hz0,hzK,hzP,hzX⟩:=st2 p.cells 121 x.cells 119 hk0 hl;have HEN:=fun W h=> WEnd b k p x.a W h ha0 ha1;cases he:jJ k p x.a with
 |false=>
  have HW:=hU (show gM k p x=⟨k,0,1⟩ by rw [gM,if_pos he]);simp only [mQ,he,Bool.false_eq_true,if_false] at HEN;clear he;have kX:W0.cell? ⟨w.heap.size + 1,1,none⟩=some (.int .u32 x.a):=aC X0.out 1;go_in
  repeat' (first
   |(rw [hW0];clear hW0)
   |(refine aE (t:=121) (v:=.agg p.cells) rfl rfl rfl (aD aL P0.out rfl) ?_)
   |go_values|go_skip|go_guarded|refine wg ?_|go_step|go_upon)
  refine (HEN _ ⟨_,_,K0.out,L0.out⟩).mono ?_;rintro er W1 ⟨rfl,hb⟩;obtain ⟨K1,P1,X1,E1,L1⟩:=n5 hb K0 P0 X0 E0 L0;clear K0 P0 X0 E0 L0;clear hb kX;dsimp only;obtain ⟨abN,hab,hab1N⟩:=nb0 E1;have habKN:=nlt K1 hab;have habPN:=nlt P1 hab;have habXN:=nlt X1 hab;obtain ⟨W2,hWn,hba,N2⟩:=nb1 (.cells #[.int .i64 0,.bool false] 116) hab;obtain ⟨K2,P2,X2,E2,L2⟩:=n5 hba K1 P1 X1 E1 L1;clear K1 P1 X1 E1 L1;clear hba
  repeat' (first
   |(rw [hWn,hab];clear hWn hab)
   |(refine sN 116 (.agg #[.int .i64 0,.bool false]) 0 #[.int .i64 0,.bool false] cN.size N2.out (by intro u hu;simp [Value.cells] at hu;rcases hu with rfl|rfl <;> rfl) fun W3 hp=> ?_
     have E3:=pE hp E2;have L3:Hid (aH W3 y bs k):=hU (hl.kept hk0 cI E3.out);have N3:=pA hp;have K3:=pT hp N2 K2;have P3:=pT hp N2 P2;have X3:=pT hp N2 X2;clear hp;clear K2 P2 X2 N2 E2 L2)
   |go_values|go_skip|go_guarded|refine wg ?_|go_step|go_upon)
  go_ret2
  rw [HW.out];exact ⟨rfl,⟨_,_,K3.out,L3.out⟩,E3.out⟩
 |true=>
  have ha4:x.a<4:=by
   refine Decidable.byContradiction fun h=> ?_;rw [oP (.inl (by omega))] at he;cases he
  simp only [mQ,he,if_true] at HEN;have hcase:x.a=0∨x.a=1∨x.a=2∨x.a=3:=by omega
  rcases hcase with hc|hc|hc|hc
  · have hcx:x.cells[1]? =some (.int .u32 0):=by rw [← hc];rfl
    have HW:=hU (show gM k p x=⟨{k with aG:=(aM k.aG p.d0 p.e0 (-1)),p:=put k.p (dH p 0 0 false)},0,0⟩ by rw [gM,if_neg (by rw [he];simp),hc];rfl);have HEN2:∀ W,cH W b k→Calls prog 215 #[.pointer (some ⟨b,0,none⟩),.agg p.cells,.int .u32 0] W (aN (.tuple #[.agg #[.int .i64 p.d0,.bool p.e0],.bool true]) W):=fun W h=> by have:=HEN W h;rw [hc] at this;exact this
    clear HEN he hc ha0 ha1 ha4;have kX:W0.cell? ⟨w.heap.size + 1,1,none⟩=some (.int .u32 0):=(aC X0.out 1).trans hcx;go_in
    repeat' (first
     |(rw [hW0];clear hW0)
     |(refine aE (t:=121) (v:=.agg p.cells) rfl rfl rfl (aD aL P0.out rfl) ?_)
     |go_values|go_skip|go_guarded|refine wg ?_|go_step|go_upon)
    refine (HEN2 _ ⟨_,_,K0.out,L0.out⟩).mono ?_;rintro er W1 ⟨rfl,hb⟩;obtain ⟨K1,P1,X1,E1,L1⟩:=n5 hb K0 P0 X0 E0 L0;clear K0 P0 X0 E0 L0;clear hb kX HEN2;dsimp only;obtain ⟨abN,hab,hab1N⟩:=nb0 E1;have habKN:=nlt K1 hab;have habPN:=nlt P1 hab;have habXN:=nlt X1 hab;obtain ⟨W2,hWn,hba,N2⟩:=nb1 (.cells #[.int .i64 p.d0,.bool p.e0] 116) hab;obtain ⟨K2,P2,X2,E2,L2⟩:=n5 hba K1 P1 X1 E1 L1;clear K1 P1 X1 E1 L1;clear hba;have kX:W2.cell? ⟨w.heap.size + 1,1,none⟩=some (.int .u32 0):=(aC X2.out 1).trans hcx
    repeat' (first
     |(rw [hWn,hab];clear hWn hab)
     |(refine sN 116 (.agg #[.int .i64 0,.bool false]) 14 ((dH p 0 0 false).cells) cN.size P2.out (by intro u hu;simp [Value.cells] at hu;rcases hu with rfl|rfl <;> rfl) fun W3 hp=> ?_
       have E3:=pE hp E2;have L3:Hid (aH W3 y bs k):=hU (hl.kept hk0 cI E3.out);have P3:=pA hp;have K3:=pT hp P2 K2;have X3:=pT hp P2 X2;have N3:=pT hp P2 N2;clear hp;clear K2 P2 X2 N2 E2 L2)
     |go_values|go_skip|go_guarded|refine wg ?_|go_step|go_upon)
    try rw [hab]
    clear hab;try clear hWn hab
    refine wp_region_noPanic ?_;refine go0 (S:=fun W=> (W.cell? ⟨b,4,none⟩=some y.pi)∧(W.cell? ⟨abN,0,none⟩=some (.int .i64 p.d0))∧(W.cell? ⟨abN,1,none⟩=some (.bool p.e0))∧(W.cell? ⟨b,0,none⟩=some y.p)∧(W.heap[w.heap.size]? =some (.cells (dH p 0 0 false).cells 121 (0,0)))) [19,23] (⟨aC K3.out 4,aC N3.out 0,aC N3.out 1,aC K3.out 0,P3.out⟩) fun hS=> ?_;obtain ⟨W4,hWd⟩:=exW W3.drew;obtain ⟨K4,P4,X4,N4,E4,L4⟩:=n6 (dW hWd) K3 P3 X3 N3 E3 L3;rw [hWd] at hS ⊢;clear hWd;clear K3 P3 X3 N3 E3 L3;refine ts [.p 0,.p 1,.p 2,.p 3,.p 4,.p 5,.l 6,.l 7,.p 9,.p 10,.p 11,.p 12,.l 13] ?_;refine tv 14 (.agg (dH p 0 0 false).cells) (fun W hSW=> aR rfl rfl (aD aL hSW.2.2.2.2 rfl)) ?_;(try simp only [aF])
    refine ro 8 fun K hK=> ?_;refine want rfl ?_;go_simp;refine (lZ y.pi k.aG p.d0 p.e0 (-1) _ L4.out.pi (by omega) (by decide) (hpb.big (by decide))).mono ?_;rintro er W5 ⟨v2,rfl,hpi,hb⟩;obtain ⟨K5,P5,X5,N5,E5,L5⟩:=n6 hb K4 P4 X4 N4 E4 L4;clear K4 P4 X4 N4 E4 L4;clear hb;have SPi5:=hU hpi;dsimp only;try clear hS
    refine nx hK (⟨aC K5.out 4,aC N5.out 0,aC N5.out 1,aC K5.out 0,P5.out⟩) fun hS=> ?_;clear hK K;(try simp only [aF])
    refine ro 15 fun K hK=> ?_;refine want rfl ?_;go_simp;refine (uV y.p k.p (dH p 0 0 false) _ L5.out.p (by omega)).mono ?_;rintro er W6 ⟨v6,rfl,ho,hb⟩;obtain ⟨K6,P6,X6,N6,E6,L6⟩:=n6 hb K5 P5 X5 N5 E5 L5;have SPi6:=hU (SPi5.out.below hb);clear K5 P5 X5 N5 E5 L5 SPi5;clear hb;have SP6:=hU (KR.Own.sl eE ho);dsimp only;try clear hS
    refine nx hK (⟨aC K6.out 4,aC N6.out 0,aC N6.out 1,aC K6.out 0,P6.out⟩) fun hS=> ?_;clear hK K;(try simp only [aF])
    refine ts [.p 16,.p 17,.p 18] ?_;refine ro 19 fun K hK=> ?_;refine kRs v2 4 {y with pi:=v2} {k with aG:=(aM k.aG p.d0 p.e0 (-1))} fK K6 E6 SPi6 (L6.out.mJ SPi6.out) fun W7 hp L7 E7 K7=> ?_;have P7:=pT hp K6 P6;have X7:=pT hp K6 X6;have N7:=pT hp K6 N6;have SPi7:=hU (SPi6.out.put K6.out hp (by decide));have SP7:=hU (SP6.out.put K6.out hp (by decide));clear hp;clear K6 P6 X6 N6 E6 L6 SPi6 SP6;refine nt hK ?_;clear hK K;try clear hS
    (try simp only [aF])
    refine ts [.p 20,.p 21,.p 22] ?_;refine ro 23 fun K hK=> ?_;refine kRs v6 0 {y with pi:=v2,p:=v6} {k with aG:=(aM k.aG p.d0 p.e0 (-1)),p:=put k.p (dH p 0 0 false)} eY K7 E7 SP7 (L7.out.pZ SP7.out) fun W8 hp L8 E8 K8=> ?_;have P8:=pT hp K7 P7;have X8:=pT hp K7 X7;have N8:=pT hp K7 N7;have SPi8:=hU (SPi7.out.put K7.out hp (by decide));have SP8:=hU (SP7.out.put K7.out hp (by decide));clear hp;clear K7 P7 X7 N7 E7 L7 SPi7 SP7;refine nt hK ?_;clear hK K;try clear hS
    (try simp only [aF])
    refine aZ (by kernel_rfl) (NoPanic.normal ?_) _;try clear hS
    refine sg ?_;intros;go_ret2
    rw [HW.out];exact ⟨rfl,⟨_,_,K8.out,L8.out⟩,E8.out⟩
  · have hcx:x.cells[1]? =some (.int .u32 1):=by rw [← hc];rfl
    have HW:=hU (show gM k p x=⟨{k with aG:=(aM k.aG p.d1 p.e1 (-1)),p:=put k.p (dH p 1 0 false)},0,0⟩ by rw [gM,if_neg (by rw [he];simp),hc];rfl);have HEN2:∀ W,cH W b k→Calls prog 215 #[.pointer (some ⟨b,0,none⟩),.agg p.cells,.int .u32 1] W (aN (.tuple #[.agg #[.int .i64 p.d1,.bool p.e1],.bool true]) W):=fun W h=> by have:=HEN W h;rw [hc] at this;exact this
    clear HEN he hc ha0 ha1 ha4;have kX:W0.cell? ⟨w.heap.size + 1,1,none⟩=some (.int .u32 1):=(aC X0.out 1).trans hcx;go_in
    repeat' (first
     |(rw [hW0];clear hW0)
     |(refine aE (t:=121) (v:=.agg p.cells) rfl rfl rfl (aD aL P0.out rfl) ?_)
     |go_values|go_skip|go_guarded|refine wg ?_|go_step|go_upon)
    refine (HEN2 _ ⟨_,_,K0.out,L0.out⟩).mono ?_;rintro er W1 ⟨rfl,hb⟩;obtain ⟨K1,P1,X1,E1,L1⟩:=n5 hb K0 P0 X0 E0 L0;clear K0 P0 X0 E0 L0;clear hb kX HEN2;dsimp only;obtain ⟨abN,hab,hab1N⟩:=nb0 E1;have habKN:=nlt K1 hab;have habPN:=nlt P1 hab;have habXN:=nlt X1 hab;obtain ⟨W2,hWn,hba,N2⟩:=nb1 (.cells #[.int .i64 p.d1,.bool p.e1] 116) hab;obtain ⟨K2,P2,X2,E2,L2⟩:=n5 hba K1 P1 X1 E1 L1;clear K1 P1 X1 E1 L1;clear hba;have kX:W2.cell? ⟨w.heap.size + 1,1,none⟩=some (.int .u32 1):=(aC X2.out 1).trans hcx
    repeat' (first
     |(rw [hWn,hab];clear hWn hab)
     |(refine sN 116 (.agg #[.int .i64 0,.bool false]) 16 ((dH p 1 0 false).cells) cN.size P2.out (by intro u hu;simp [Value.cells] at hu;rcases hu with rfl|rfl <;> rfl) fun W3 hp=> ?_
       have E3:=pE hp E2;have L3:Hid (aH W3 y bs k):=hU (hl.kept hk0 cI E3.out);have P3:=pA hp;have K3:=pT hp P2 K2;have X3:=pT hp P2 X2;have N3:=pT hp P2 N2;clear hp;clear K2 P2 X2 N2 E2 L2)
     |go_values|go_skip|go_guarded|refine wg ?_|go_step|go_upon)
    try rw [hab]
    clear hab;try clear hWn hab
    refine wp_region_noPanic ?_;refine go0 (S:=fun W=> (W.cell? ⟨b,4,none⟩=some y.pi)∧(W.cell? ⟨abN,0,none⟩=some (.int .i64 p.d1))∧(W.cell? ⟨abN,1,none⟩=some (.bool p.e1))∧(W.cell? ⟨b,0,none⟩=some y.p)∧(W.heap[w.heap.size]? =some (.cells (dH p 1 0 false).cells 121 (0,0)))) [19,23] (⟨aC K3.out 4,aC N3.out 0,aC N3.out 1,aC K3.out 0,P3.out⟩) fun hS=> ?_;obtain ⟨W4,hWd⟩:=exW W3.drew;obtain ⟨K4,P4,X4,N4,E4,L4⟩:=n6 (dW hWd) K3 P3 X3 N3 E3 L3;rw [hWd] at hS ⊢;clear hWd;clear K3 P3 X3 N3 E3 L3;refine ts [.p 0,.p 1,.p 2,.p 3,.p 4,.p 5,.l 6,.l 7,.p 9,.p 10,.p 11,.p 12,.l 13] ?_;refine tv 14 (.agg (dH p 1 0 false).cells) (fun W hSW=> aR rfl rfl (aD aL hSW.2.2.2.2 rfl)) ?_;(try simp only [aF])
    refine ro 8 fun K hK=> ?_;refine want rfl ?_;go_simp;refine (lZ y.pi k.aG p.d1 p.e1 (-1) _ L4.out.pi (by omega) (by decide) (hpb.big (by decide))).mono ?_;rintro er W5 ⟨v2,rfl,hpi,hb⟩;obtain ⟨K5,P5,X5,N5,E5,L5⟩:=n6 hb K4 P4 X4 N4 E4 L4;clear K4 P4 X4 N4 E4 L4;clear hb;have SPi5:=hU hpi;dsimp only;try clear hS
    refine nx hK (⟨aC K5.out 4,aC N5.out 0,aC N5.out 1,aC K5.out 0,P5.out⟩) fun hS=> ?_;clear hK K;(try simp only [aF])
    refine ro 15 fun K hK=> ?_;refine want rfl ?_;go_simp;refine (uV y.p k.p (dH p 1 0 false) _ L5.out.p (by omega)).mono ?_;rintro er W6 ⟨v6,rfl,ho,hb⟩;obtain ⟨K6,P6,X6,N6,E6,L6⟩:=n6 hb K5 P5 X5 N5 E5 L5;have SPi6:=hU (SPi5.out.below hb);clear K5 P5 X5 N5 E5 L5 SPi5;clear hb;have SP6:=hU (KR.Own.sl eE ho);dsimp only;try clear hS
    refine nx hK (⟨aC K6.out 4,aC N6.out 0,aC N6.out 1,aC K6.out 0,P6.out⟩) fun hS=> ?_;clear hK K;(try simp only [aF])
    refine ts [.p 16,.p 17,.p 18] ?_;refine ro 19 fun K hK=> ?_;refine kRs v2 4 {y with pi:=v2} {k with aG:=(aM k.aG p.d1 p.e1 (-1))} fK K6 E6 SPi6 (L6.out.mJ SPi6.out) fun W7 hp L7 E7 K7=> ?_;have P7:=pT hp K6 P6;have X7:=pT hp K6 X6;have N7:=pT hp K6 N6;have SPi7:=hU (SPi6.out.put K6.out hp (by decide));have SP7:=hU (SP6.out.put K6.out hp (by decide));clear hp;clear K6 P6 X6 N6 E6 L6 SPi6 SP6;refine nt hK ?_;clear hK K;try clear hS
    (try simp only [aF])
    refine ts [.p 20,.p 21,.p 22] ?_;refine ro 23 fun K hK=> ?_;refine kRs v6 0 {y with pi:=v2,p:=v6} {k with aG:=(aM k.aG p.d1 p.e1 (-1)),p:=put k.p (dH p 1 0 false)} eY K7 E7 SP7 (L7.out.pZ SP7.out) fun W8 hp L8 E8 K8=> ?_;have P8:=pT hp K7 P7;have X8:=pT hp K7 X7;have N8:=pT hp K7 N7;have SPi8:=hU (SPi7.out.put K7.out hp (by decide));have SP8:=hU (SP7.out.put K7.out hp (by decide));clear hp;clear K7 P7 X7 N7 E7 L7 SPi7 SP7;refine nt hK ?_;clear hK K;try clear hS
    (try simp only [aF])
    refine aZ (by kernel_rfl) (NoPanic.normal ?_) _;try clear hS
    refine sg ?_;intros;go_ret2
    rw [HW.out];exact ⟨rfl,⟨_,_,K8.out,L8.out⟩,E8.out⟩
  · have hcx:x.cells[1]? =some (.int .u32 2):=by rw [← hc];rfl
    have HW:=hU (show gM k p x=⟨{k with aG:=(aM k.aG p.d2 p.e2 (-1)),p:=put k.p (dH p 2 0 false)},0,0⟩ by rw [gM,if_neg (by rw [he];simp),hc];rfl);have HEN2:∀ W,cH W b k→Calls prog 215 #[.pointer (some ⟨b,0,none⟩),.agg p.cells,.int .u32 2] W (aN (.tuple #[.agg #[.int .i64 p.d2,.bool p.e2],.bool true]) W):=fun W h=> by have:=HEN W h;rw [hc] at this;exact this
    clear HEN he hc ha0 ha1 ha4;have kX:W0.cell? ⟨w.heap.size + 1,1,none⟩=some (.int .u32 2):=(aC X0.out 1).trans hcx;go_in
    repeat' (first
     |(rw [hW0];clear hW0)
     |(refine aE (t:=121) (v:=.agg p.cells) rfl rfl rfl (aD aL P0.out rfl) ?_)
     |go_values|go_skip|go_guarded|refine wg ?_|go_step|go_upon)
    refine (HEN2 _ ⟨_,_,K0.out,L0.out⟩).mono ?_;rintro er W1 ⟨rfl,hb⟩;obtain ⟨K1,P1,X1,E1,L1⟩:=n5 hb K0 P0 X0 E0 L0;clear K0 P0 X0 E0 L0;clear hb kX HEN2;dsimp only;obtain ⟨abN,hab,hab1N⟩:=nb0 E1;have habKN:=nlt K1 hab;have habPN:=nlt P1 hab;have habXN:=nlt X1 hab;obtain ⟨W2,hWn,hba,N2⟩:=nb1 (.cells #[.int .i64 p.d2,.bool p.e2] 116) hab;obtain ⟨K2,P2,X2,E2,L2⟩:=n5 hba K1 P1 X1 E1 L1;clear K1 P1 X1 E1 L1;clear hba;have kX:W2.cell? ⟨w.heap.size + 1,1,none⟩=some (.int .u32 2):=(aC X2.out 1).trans hcx
    repeat' (first
     |(rw [hWn,hab];clear hWn hab)
     |(refine sN 116 (.agg #[.int .i64 0,.bool false]) 18 ((dH p 2 0 false).cells) cN.size P2.out (by intro u hu;simp [Value.cells] at hu;rcases hu with rfl|rfl <;> rfl) fun W3 hp=> ?_
       have E3:=pE hp E2;have L3:Hid (aH W3 y bs k):=hU (hl.kept hk0 cI E3.out);have P3:=pA hp;have K3:=pT hp P2 K2;have X3:=pT hp P2 X2;have N3:=pT hp P2 N2;clear hp;clear K2 P2 X2 N2 E2 L2)
     |go_values|go_skip|go_guarded|refine wg ?_|go_step|go_upon)
    try rw [hab]
    clear hab;try clear hWn hab
    refine wp_region_noPanic ?_;refine go0 (S:=fun W=> (W.cell? ⟨b,4,none⟩=some y.pi)∧(W.cell? ⟨abN,0,none⟩=some (.int .i64 p.d2))∧(W.cell? ⟨abN,1,none⟩=some (.bool p.e2))∧(W.cell? ⟨b,0,none⟩=some y.p)∧(W.heap[w.heap.size]? =some (.cells (dH p 2 0 false).cells 121 (0,0)))) [19,23] (⟨aC K3.out 4,aC N3.out 0,aC N3.out 1,aC K3.out 0,P3.out⟩) fun hS=> ?_;obtain ⟨W4,hWd⟩:=exW W3.drew;obtain ⟨K4,P4,X4,N4,E4,L4⟩:=n6 (dW hWd) K3 P3 X3 N3 E3 L3;rw [hWd] at hS ⊢;clear hWd;clear K3 P3 X3 N3 E3 L3;refine ts [.p 0,.p 1,.p 2,.p 3,.p 4,.p 5,.l 6,.l 7,.p 9,.p 10,.p 11,.p 12,.l 13] ?_;refine tv 14 (.agg (dH p 2 0 false).cells) (fun W hSW=> aR rfl rfl (aD aL hSW.2.2.2.2 rfl)) ?_;(try simp only [aF])
    refine ro 8 fun K hK=> ?_;refine want rfl ?_;go_simp;refine (lZ y.pi k.aG p.d2 p.e2 (-1) _ L4.out.pi (by omega) (by decide) (hpb.big (by decide))).mono ?_;rintro er W5 ⟨v2,rfl,hpi,hb⟩;obtain ⟨K5,P5,X5,N5,E5,L5⟩:=n6 hb K4 P4 X4 N4 E4 L4;clear K4 P4 X4 N4 E4 L4;clear hb;have SPi5:=hU hpi;dsimp only;try clear hS
    refine nx hK (⟨aC K5.out 4,aC N5.out 0,aC N5.out 1,aC K5.out 0,P5.out⟩) fun hS=> ?_;clear hK K;(try simp only [aF])
    refine ro 15 fun K hK=> ?_;refine want rfl ?_;go_simp;refine (uV y.p k.p (dH p 2 0 false) _ L5.out.p (by omega)).mono ?_;rintro er W6 ⟨v6,rfl,ho,hb⟩;obtain ⟨K6,P6,X6,N6,E6,L6⟩:=n6 hb K5 P5 X5 N5 E5 L5;have SPi6:=hU (SPi5.out.below hb);clear K5 P5 X5 N5 E5 L5 SPi5;clear hb;have SP6:=hU (KR.Own.sl eE ho);dsimp only;try clear hS
    refine nx hK (⟨aC K6.out 4,aC N6.out 0,aC N6.out 1,aC K6.out 0,P6.out⟩) fun hS=> ?_;clear hK K;(try simp only [aF])
    refine ts [.p 16,.p 17,.p 18] ?_;refine ro 19 fun K hK=> ?_;refine kRs v2 4 {y with pi:=v2} {k with aG:=(aM k.aG p.d2 p.e2 (-1))} fK K6 E6 SPi6 (L6.out.mJ SPi6.out) fun W7 hp L7 E7 K7=> ?_;have P7:=pT hp K6 P6;have X7:=pT hp K6 X6;have N7:=pT hp K6 N6;have SPi7:=hU (SPi6.out.put K6.out hp (by decide));have SP7:=hU (SP6.out.put K6.out hp (by decide));clear hp;clear K6 P6 X6 N6 E6 L6 SPi6 SP6;refine nt hK ?_;clear hK K;try clear hS
    (try simp only [aF])
    refine ts [.p 20,.p 21,.p 22] ?_;refine ro 23 fun K hK=> ?_;refine kRs v6 0 {y with pi:=v2,p:=v6} {k with aG:=(aM k.aG p.d2 p.e2 (-1)),p:=put k.p (dH p 2 0 false)} eY K7 E7 SP7 (L7.out.pZ SP7.out) fun W8 hp L8 E8 K8=> ?_;have P8:=pT hp K7 P7;have X8:=pT hp K7 X7;have N8:=pT hp K7 N7;have SPi8:=hU (SPi7.out.put K7.out hp (by decide));have SP8:=hU (SP7.out.put K7.out hp (by decide));clear hp;clear K7 P7 X7 N7 E7 L7 SPi7 SP7;refine nt hK ?_;clear hK K;try clear hS
    (try simp only [aF])
    refine aZ (by kernel_rfl) (NoPanic.normal ?_) _;try clear hS
    refine sg ?_;intros;go_ret2
    rw [HW.out];exact ⟨rfl,⟨_,_,K8.out,L8.out⟩,E8.out⟩
  · have hcx:x.cells[1]? =some (.int .u32 3):=by rw [← hc];rfl
    have HW:=hU (show gM k p x=⟨{k with aG:=(aM k.aG p.d3 p.e3 (-1)),p:=put k.p (dH p 3 0 false)},0,0⟩ by rw [gM,if_neg (by rw [he];simp),hc];rfl);have HEN2:∀ W,cH W b k→Calls prog 215 #[.pointer (some ⟨b,0,none⟩),.agg p.cells,.int .u32 3] W (aN (.tuple #[.agg #[.int .i64 p.d3,.bool p.e3],.bool true]) W):=fun W h=> by have:=HEN W h;rw [hc] at this;exact this
    clear HEN he hc ha0 ha1 ha4;have kX:W0.cell? ⟨w.heap.size + 1,1,none⟩=some (.int .u32 3):=(aC X0.out 1).trans hcx;go_in
    repeat' (first
     |(rw [hW0];clear hW0)
     |(refine aE (t:=121) (v:=.agg p.cells) rfl rfl rfl (aD aL P0.out rfl) ?_)
     |go_values|go_skip|go_guarded|refine wg ?_|go_step|go_upon)
    refine (HEN2 _ ⟨_,_,K0.out,L0.out⟩).mono ?_;rintro er W1 ⟨rfl,hb⟩;obtain ⟨K1,P1,X1,E1,L1⟩:=n5 hb K0 P0 X0 E0 L0;clear K0 P0 X0 E0 L0;clear hb kX HEN2;dsimp only;obtain ⟨abN,hab,hab1N⟩:=nb0 E1;have habKN:=nlt K1 hab;have habPN:=nlt P1 hab;have habXN:=nlt X1 hab;obtain ⟨W2,hWn,hba,N2⟩:=nb1 (.cells #[.int .i64 p.d3,.bool p.e3] 116) hab;obtain ⟨K2,P2,X2,E2,L2⟩:=n5 hba K1 P1 X1 E1 L1;clear K1 P1 X1 E1 L1;clear hba;have kX:W2.cell? ⟨w.heap.size + 1,1,none⟩=some (.int .u32 3):=(aC X2.out 1).trans hcx
    repeat' (first
     |(rw [hWn,hab];clear hWn hab)
     |(refine sN 116 (.agg #[.int .i64 0,.bool false]) 20 ((dH p 3 0 false).cells) cN.size P2.out (by intro u hu;simp [Value.cells] at hu;rcases hu with rfl|rfl <;> rfl) fun W3 hp=> ?_
       have E3:=pE hp E2;have L3:Hid (aH W3 y bs k):=hU (hl.kept hk0 cI E3.out);have P3:=pA hp;have K3:=pT hp P2 K2;have X3:=pT hp P2 X2;have N3:=pT hp P2 N2;clear hp;clear K2 P2 X2 N2 E2 L2)
     |go_values|go_skip|go_guarded|refine wg ?_|go_step|go_upon)
    try rw [hab]
    clear hab;try clear hWn hab
    refine wp_region_noPanic ?_;refine go0 (S:=fun W=> (W.cell? ⟨b,4,none⟩=some y.pi)∧(W.cell? ⟨abN,0,none⟩=some (.int .i64 p.d3))∧(W.cell? ⟨abN,1,none⟩=some (.bool p.e3))∧(W.cell? ⟨b,0,none⟩=some y.p)∧(W.heap[w.heap.size]? =some (.cells (dH p 3 0 false).cells 121 (0,0)))) [19,23] (⟨aC K3.out 4,aC N3.out 0,aC N3.out 1,aC K3.out 0,P3.out⟩) fun hS=> ?_;obtain ⟨W4,hWd⟩:=exW W3.drew;obtain ⟨K4,P4,X4,N4,E4,L4⟩:=n6 (dW hWd) K3 P3 X3 N3 E3 L3;rw [hWd] at hS ⊢;clear hWd;clear K3 P3 X3 N3 E3 L3;refine ts [.p 0,.p 1,.p 2,.p 3,.p 4,.p 5,.l 6,.l 7,.p 9,.p 10,.p 11,.p 12,.l 13] ?_;refine tv 14 (.agg (dH p 3 0 false).cells) (fun W hSW=> aR rfl rfl (aD aL hSW.2.2.2.2 rfl)) ?_;(try simp only [aF])
    refine ro 8 fun K hK=> ?_;refine want rfl ?_;go_simp;refine (lZ y.pi k.aG p.d3 p.e3 (-1) _ L4.out.pi (by omega) (by decide) (hpb.big (by decide))).mono ?_;rintro er W5 ⟨v2,rfl,hpi,hb⟩;obtain ⟨K5,P5,X5,N5,E5,L5⟩:=n6 hb K4 P4 X4 N4 E4 L4;clear K4 P4 X4 N4 E4 L4;clear hb;have SPi5:=hU hpi;dsimp only;try clear hS
    refine nx hK (⟨aC K5.out 4,aC N5.out 0,aC N5.out 1,aC K5.out 0,P5.out⟩) fun hS=> ?_;clear hK K;(try simp only [aF])
    refine ro 15 fun K hK=> ?_;refine want rfl ?_;go_simp;refine (uV y.p k.p (dH p 3 0 false) _ L5.out.p (by omega)).mono ?_;rintro er W6 ⟨v6,rfl,ho,hb⟩;obtain ⟨K6,P6,X6,N6,E6,L6⟩:=n6 hb K5 P5 X5 N5 E5 L5;have SPi6:=hU (SPi5.out.below hb);clear K5 P5 X5 N5 E5 L5 SPi5;clear hb;have SP6:=hU (KR.Own.sl eE ho);dsimp only;try clear hS
    refine nx hK (⟨aC K6.out 4,aC N6.out 0,aC N6.out 1,aC K6.out 0,P6.out⟩) fun hS=> ?_;clear hK K;(try simp only [aF])
    refine ts [.p 16,.p 17,.p 18] ?_;refine ro 19 fun K hK=> ?_;refine kRs v2 4 {y with pi:=v2} {k with aG:=(aM k.aG p.d3 p.e3 (-1))} fK K6 E6 SPi6 (L6.out.mJ SPi6.out) fun W7 hp L7 E7 K7=> ?_;have P7:=pT hp K6 P6;have X7:=pT hp K6 X6;have N7:=pT hp K6 N6;have SPi7:=hU (SPi6.out.put K6.out hp (by decide));have SP7:=hU (SP6.out.put K6.out hp (by decide));clear hp;clear K6 P6 X6 N6 E6 L6 SPi6 SP6;refine nt hK ?_;clear hK K;try clear hS
    (try simp only [aF])
    refine ts [.p 20,.p 21,.p 22] ?_;refine ro 23 fun K hK=> ?_;refine kRs v6 0 {y with pi:=v2,p:=v6} {k with aG:=(aM k.aG p.d3 p.e3 (-1)),p:=put k.p (dH p 3 0 false)} eY K7 E7 SP7 (L7.out.pZ SP7.out) fun W8 hp L8 E8 K8=> ?_;have P8:=pT hp K7 P7;have X8:=pT hp K7 X7;have N8:=pT hp K7 N7;have SPi8:=hU (SPi7.out.put K7.out hp (by decide));have SP8:=hU (SP7.out.put K7.out hp (by decide));clear hp;clear K7 P7 X7 N7 E7 L7 SPi7 SP7;refine nt hK ?_;clear hK K;try clear hS
    (try simp only [aF])
    refine aZ (by kernel_rfl) (NoPanic.normal ?_) _;try clear hS
    refine sg ?_;intros;go_ret2
    rw [HW.out];exact ⟨rfl,⟨_,_,K8.out,L8.out⟩,E8.out⟩
