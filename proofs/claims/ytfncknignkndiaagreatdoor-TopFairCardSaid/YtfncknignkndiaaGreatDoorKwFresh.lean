/- work.fresh: a new process. Conditions: as many as Go can hold; numbers are small. -/
import Derived.Test.YtfncknignkndiaaGreatDoorGWork
set_option linter.unusedVariables false
set_option maxRecDepth 100000
set_option maxHeartbeats 8000000
set_option linter.unusedSimpArgs false
namespace Go.Proofs.YtfncknignkndiaaGreatDoor
open Tryz
open Go.RowKit KR RegT3
namespace Kn
def PB (B:Int) (l:List cG):Prop:=∀ q ∈ l, -B≤q.rd∧q.rd≤B∧ -B≤q.wr∧q.wr≤B
theorem fS (l:List cG) (d:Int) (e:Bool) (n:Int):(aM l d e n).length=l.length:=by
 unfold aM;split
 · rfl
 · rw [List.length_modify]
theorem jT {l:List cG} {B:Int} (h:PB B l) (d:Int) (e:Bool) (n:Int) (h0: -1≤n) (h1:n≤1):PB (B + 1) (aM l d e n):=by
 unfold aM;split
 · intro q hq;have:=h q hq
   omega
 · intro q hq;rw [List.mem_iff_getElem?] at hq;obtain ⟨i,hi⟩:=hq;rw [List.getElem?_modify] at hi;cases hl:l[i]? with
   |none=> rw [hl] at hi;cases hi
   |some r=>
    have hr:=h r (List.mem_of_getElem? hl);rw [hl,Option.map_eq_map,Option.map_some] at hi;injection hi with hi
    subst hi;split
    · cases e
      · simp only [Bool.false_eq_true,if_false];omega
      · simp only [if_true];omega
    · exact ⟨by omega,by omega,by omega,by omega⟩
theorem PB.big {l:List cG} {B:Int} (h:PB B l) (hB:B≤4611686018427387904):∀ p ∈ l, -4611686018427387904≤p.rd∧p.rd≤4611686018427387904∧ -4611686018427387904≤p.wr∧p.wr≤4611686018427387904:=fun p hp=> by
 have:=h p hp
 omega
theorem qHh (b:Nat) (k:aI) (p:Proc) (w:World) (hk:cH w b k) (hn:k.p.length≤1000000) (ht:k.t.l.length≤1000000) (hpl:k.aG.length≤1000000) (hpb:PB 1000000 k.aG) (hhl:k.h.length≤1000000) (hs0: -9223372036854775808≤k.hs) (hs1:k.hs≤9223372036854775807) (hpid:∀ q ∈ k.p,q.pid≤4611686018427387904):
 Calls prog 38 #[.pointer (some ⟨b,0,none⟩),.agg p.cells] w (eN b (.tuple #[.int .u32 (lD k),.int .i64 (fN k)]) (fresh k p) w):=by
 obtain ⟨y,bs,hk0,hl⟩:=hk;have hbl:=hlt hk0;obtain ⟨pa,pc,hpa,hpc,_⟩:=hl.p.shape;obtain ⟨W0,hW0,K0,P0,E0,L0,hz0,hzK,hzP⟩:=st1 p.cells 121 hk0 hl;have kP:W0.cell? ⟨b,0,none⟩=some (.slice pa k.p.length pc):=(show W0.cell? ⟨b,0,none⟩=some y.p from aC K0.out 0).trans (congrArg some hpa);have HPA:=hU hpa;clear hpa;by_cases h6:6≤k.p.length
 · have h6I:(6:Int)≤(k.p.length:Int):=by omega
   have hv:lD k=0:=if_pos h6;have he:fN k=5:=if_pos h6;have hf:fresh k p=k:=if_pos h6;rw [hv,he,hf];go_in
   repeat' (first
    |(rw [hW0];clear hW0)
    |go_values|go_skip|go_guarded|refine wg ?_|go_step|go_upon)
   go_ret2
   exact ⟨rfl,⟨_,_,K0.out,L0.out⟩,E0.out⟩
 have h6I:¬ (6:Int)≤(k.p.length:Int):=by omega
 go_in
 repeat' (first
  |(rw [hW0];clear hW0)
  |go_values|go_skip|go_guarded|refine wg ?_|go_step|go_upon)
 have hnx:=Next (.slice pa k.p.length pc) k.p W0 (by have h:=L0.out.p;rw [HPA.out] at h;exact h) hpid;obtain ⟨pid,hpd⟩:∃ pid,next k.p=pid:=⟨_,rfl⟩
 rw [hpd] at hnx;have HPD:=hU hpd;clear hpd kP;refine hnx.mono ?_;rintro er W1 ⟨rfl,hb⟩;obtain ⟨K1,P1,E1,L1⟩:=n4 hb K0 P0 E0 L0;clear K0 P0 E0 L0;clear hb hnx;dsimp only
 repeat' (first
  |(refine aP (t:=3) (v:=.int .i64 pid) (off:=0) (new:=({p with pid:=pid}:Proc).cells) rfl rfl rfl rfl cO P1.out rfl rfl (show 0 + 1≤26 by decide) rfl ?_;intro W2 hp
    have E2:=pE hp E1;have L2:Hid (aH W2 y bs k):=hU (hl.kept hk0 cI E2.out);have P2:=pA hp;have K2:=pT hp P1 K1;clear hp;clear K1 P1 E1 L1)
  |(refine aP (t:=3) (v:=.int .i64 1) (off:=2) (new:=({p with pid:=pid,st:=1}:Proc).cells) rfl rfl rfl rfl cO P2.out rfl rfl (show 2 + 1≤26 by decide) rfl ?_;intro W3 hp
    have E3:=pE hp E2;have L3:Hid (aH W3 y bs k):=hU (hl.kept hk0 cI E3.out);have P3:=pA hp;have K3:=pT hp P2 K2;clear hp;clear K2 P2 E2 L2)
  |(refine sN 119 (.agg #[.int .u32 0,.int .u32 0,.int .u32 0,.int .u32 0]) 22 ((born p pid).cells) dD.size P3.out (by intro u hu;simp [Value.cells] at hu;subst hu;rfl) fun W4 hp=> ?_
    have E4:=pE hp E3;have L4:Hid (aH W4 y bs k):=hU (hl.kept hk0 cI E4.out);have P4:=pA hp;have K4:=pT hp P3 K3;clear hp;clear K3 P3 E3 L3)
  |go_values|go_skip|go_guarded|refine wg ?_|go_step|go_upon)
 refine wp_region_noPanic ?_;refine go0 (S:=fun W=> (W.cell? ⟨b,5,none⟩=some (.int .i64 k.hs))∧(W.cell? ⟨b,6,none⟩=some y.h)∧(W.cell? ⟨w.heap.size,0,none⟩=some (.int .i64 pid))) [13] (⟨aC K4.out 5,aC K4.out 6,aC P4.out 0⟩) fun hS=> ?_;obtain ⟨W5,hWd⟩:=exW W4.drew;obtain ⟨K5,P5,E5,L5⟩:=n4 (dW hWd) K4 P4 E4 L4;rw [hWd] at hS ⊢;clear hWd;clear K4 P4 E4 L4;refine ts [.p 0,.p 1,.p 2,.p 3,.l 4,.p 5,.l 6] ?_;refine oT (i:=7) (j:=12) (by kernel_rfl) rfl rfl (fun K hK=> ?_) (fun K hK=> ?_);refine want rfl ?_;go_simp;refine (qTw y.h k.hs k.h 64 pid _ L5.out.h (by decide) hs0 hs1 hhl).mono ?_;rintro er W6 ⟨u8,at8,rfl,hsh,hb⟩;obtain ⟨K6,P6,E6,L6⟩:=n4 hb K5 P5 E5 L5;clear K5 P5 E5 L5;have SH6:=hU hsh;clear hb;dsimp only;try clear hS
 refine nx hK (⟨aC K6.out 5,aC K6.out 6,aC P6.out 0⟩) fun hS=> ?_;clear hK K;(try simp only [aF])
 refine ts [.p 8,.p 9,.p 10,.p 11] ?_;refine ro 12 fun K hK=> ?_;obtain ⟨abHb,hab,hab1⟩:=nb0 E6;have habK:=nlt K6 hab;have habP:=nlt P6 hab;go_simp;obtain ⟨W7,hWn,hba,Hb7⟩:=nb1 (.cells #[.int .i64 0,.slice none 0 0] 34) hab;rw [hWn];clear hWn;obtain ⟨K7,P7,E7,L7⟩:=n4 hba K6 P6 E6 L6;have SH7:=hU (SH6.out.below hba);clear K6 P6 E6 L6 SH6;clear hba;try rw [hab]
 clear hab;try clear hS
 refine nx hK (⟨aC K7.out 5,aC K7.out 6,aC P7.out 0⟩) fun hS=> ?_;clear hK K;(try simp only [aF])
 rotate_left
 obtain ⟨abHb,hab,hab1⟩:=nb0 E5;have habK:=nlt K5 hab;have habP:=nlt P5 hab;go_simp;obtain ⟨W6,hWn,hba,Hb6⟩:=nb1 (.cells #[.int .i64 0,.slice none 0 0] 34) hab;rw [hWn];clear hWn;obtain ⟨K6,P6,E6,L6⟩:=n4 hba K5 P5 E5 L5;clear K5 P5 E5 L5;clear hba;try rw [hab]
 clear hab;try clear hS
 refine nx hK (⟨aC K6.out 5,aC K6.out 6,aC P6.out 0⟩) fun hS=> ?_;clear hK K;(try simp only [aF])
 refine ro 7 fun K hK=> ?_;refine want rfl ?_;go_simp;refine (qTw y.h k.hs k.h 64 pid _ L6.out.h (by decide) hs0 hs1 hhl).mono ?_;rintro er W7 ⟨u8,at8,rfl,hsh,hb⟩;obtain ⟨K7,P7,Hb7,E7,L7⟩:=n5 hb K6 P6 Hb6 E6 L6;clear K6 P6 Hb6 E6 L6;have SH7:=hU hsh;clear hb;dsimp only;try clear hS
 refine nx hK (⟨aC K7.out 5,aC K7.out 6,aC P7.out 0⟩) fun hS=> ?_;clear hK K;(try simp only [aF])
 refine ts [.p 8,.p 9,.p 10,.p 11] ?_
 all_goals
  refine ro 13 fun K hK=> ?_;refine want rfl ?_;refine cL (v:=.agg #[.int .i64 k.hs,u8]) (off:=0) (new:=#[.int .i64 k.hs,u8]) rfl rfl rfl iC.size Hb7.out rfl (show 0 + 2≤2 by decide) (qPs SH7.out) rfl ?_;intro W8 hp;have E8:=pE hp E7;have L8:Hid (aH W8 y bs k):=hU (hl.kept hk0 cI E8.out);have Hb8:=pA hp;have K8:=pT hp Hb7 K7;have P8:=pT hp Hb7 P7;have SH8:=hU (SH7.out.put Hb7.out hp (by decide));clear hp;clear K7 P7 Hb7 E7 L7 SH7;refine nt hK ?_;clear hK K;try clear hS
  (try simp only [aF])
  refine ts [.p 14,.p 15] ?_;refine aZ (by kernel_rfl) (NoPanic.normal ?_) _;try clear hS
  have HTE:=hU (show fN k=(fO k.hs k.h 64 pid).2 by rw [fN,if_neg h6,HPD.out]);have HTV:=hU (show lD k=if (fO k.hs k.h 64 pid).2=0 then pid % 4294967296 else 0 by rw [lD,if_neg h6,HPD.out]);have HTF:=hU (show fresh k p=if (fO k.hs k.h 64 pid).2=0 then {k with h:=(fO k.hs k.h 64 pid).1,aG:=eC k.aG p 1,p:=put k.p (born p pid),t:=iE k.t pid} else k by rw [fresh,if_neg h6,HPD.out]);generalize (fO k.hs k.h 64 pid).1=hl2 at *;generalize (fO k.hs k.h 64 pid).2=er2 at *;by_cases hz:er2=0
  rotate_left
  · have hzb:(er2 !=0)=true:=by simp [hz]
    refine sg ?_;intros;go_ret2
    rw [HTE.out,HTV.out,HTF.out,if_neg hz,if_neg hz];exact ⟨rfl,⟨_,_,K8.out,L8.out⟩,E8.out⟩
  · subst hz
    repeat' (first
     |(refine aE (t:=34) (v:=.agg #[.int .i64 k.hs,u8]) rfl rfl rfl (aD iC Hb8.out rfl) ?_)
     |(refine sN 34 (.agg #[.int .i64 k.hs,u8]) 5 (aJ {y with h:=u8} {k with h:=hl2}) iC.size K8.out (qPs SH8.out) fun W9 hp=> ?_
       have L9:Hid (aH W9 {y with h:=u8} bs {k with h:=hl2}):=hU ((L8.out.setH SH8.out).put K8.out cI hp);have E9:=pK hp E8;have K9:Hid (W9.heap[b]? =some (.cells (aJ {y with h:=u8} {k with h:=hl2}) 104 (0,0))):=pA hp;have P9:=pT hp K8 P8;have Hb9:=pT hp K8 Hb8;have SH9:=hU (SH8.out.put K8.out hp (by decide));clear hp;clear K8 P8 Hb8 E8 L8 SH8)
     |(refine aE (t:=117) (v:=.agg (fV p.d0 p.e0 p.d1 p.e1 p.d2 p.e2 p.d3 p.e3)) rfl rfl rfl (cB jN (show _ from P9.out) (o:=14) rfl rfl) ?_)
     |go_values|go_skip|go_guarded|refine wg ?_|go_step|go_upon)
    clear SH9;clear Hb9;unfold fV;have hx0:=fun W=> idxFd0 p.d0 p.e0 p.d1 p.e1 p.d2 p.e2 p.d3 p.e3 W;have hx1:=fun W=> idxFd1 p.d0 p.e0 p.d1 p.e1 p.d2 p.e2 p.d3 p.e3 W;have hx2:=fun W=> idxFd2 p.d0 p.e0 p.d1 p.e1 p.d2 p.e2 p.d3 p.e3 W;have hx3:=fun W=> idxFd3 p.d0 p.e0 p.d1 p.e1 p.d2 p.e2 p.d3 p.e3 W;refine wp_loop_rounds 5 ?_;rw [rounds_succ];obtain ⟨abE0,hab,hab1E0⟩:=nb0 E9;have habKE0:=nlt K9 hab;have habPE0:=nlt P9 hab;obtain ⟨W10,hWn,hba,E0_10⟩:=nb1 (.cells #[.int .i64 p.d0,.bool p.e0] 116) hab;obtain ⟨K10,P10,E10,L10⟩:=n4 hba K9 P9 E9 L9;clear K9 P9 E9 L9;clear hba
    repeat' (first
     |(rw [hWn];clear hWn)
     |go_values|go_skip|go_guarded|refine wg ?_|go_step|go_upon)
    try rw [hab]
    clear hab;have hpb0:PB 1000001 (aM k.aG p.d0 p.e0 1):=jT hpb _ _ _ (by decide) (by decide);have hpl0:(aM k.aG p.d0 p.e0 1).length≤1000000:=by rw [fS];exact hpl
    refine wp_region_noPanic ?_;refine go0 (S:=fun W=> (W.cell? ⟨b,4,none⟩=some y.pi)∧(W.cell? ⟨abE0,0,none⟩=some (.int .i64 p.d0))∧(W.cell? ⟨abE0,1,none⟩=some (.bool p.e0))) [11] (⟨aC K10.out 4,aC E0_10.out 0,aC E0_10.out 1⟩) fun hS=> ?_;obtain ⟨W11,hWd⟩:=exW W10.drew;obtain ⟨K11,P11,E0_11,E11,L11⟩:=n5 (dW hWd) K10 P10 E0_10 E10 L10;rw [hWd] at hS ⊢;clear hWd;clear K10 P10 E0_10 E10 L10;refine ts [.p 0,.p 1,.p 2,.p 3,.p 4,.l 5,.l 6] ?_;refine ro 7 fun K hK=> ?_;refine want rfl ?_;go_simp;refine (lZ y.pi k.aG p.d0 p.e0 1 _ L11.out.pi (by omega) (by decide) (hpb.big (by decide))).mono ?_;rintro er W12 ⟨v20,rfl,hpi,hb⟩;obtain ⟨K12,P12,E0_12,E12,L12⟩:=n5 hb K11 P11 E0_11 E11 L11;clear K11 P11 E0_11 E11 L11;clear hb;have SPi12:=hU hpi;dsimp only;try clear hS
    refine nx hK (⟨aC K12.out 4,aC E0_12.out 0,aC E0_12.out 1⟩) fun hS=> ?_;clear hK K;(try simp only [aF])
    refine ts [.p 8,.p 9,.p 10] ?_;refine ro 11 fun K hK=> ?_;refine kRs v20 4 {y with h:=u8,pi:=v20} {k with h:=hl2,aG:=(aM k.aG p.d0 p.e0 1)} fK K12 E12 SPi12 (L12.out.mJ SPi12.out) fun W13 hp L13 E13 K13=> ?_;have P13:=pT hp K12 P12;have E0_13:=pT hp K12 E0_12;have SPi13:=hU (SPi12.out.put K12.out hp (by decide));clear hp;clear K12 P12 E0_12 E12 L12 SPi12;refine nt hK ?_;clear hK K;try clear hS
    (try simp only [aF])
    refine aZ (by kernel_rfl) (NoPanic.normal ?_) _;try clear hS
    clear SPi13;clear E0_13;refine sg ?_;intros;rw [rounds_succ];obtain ⟨abE1,hab,hab1E1⟩:=nb0 E13;have habKE1:=nlt K13 hab;have habPE1:=nlt P13 hab;obtain ⟨W14,hWn,hba,E1_14⟩:=nb1 (.cells #[.int .i64 p.d1,.bool p.e1] 116) hab;obtain ⟨K14,P14,E14,L14⟩:=n4 hba K13 P13 E13 L13;clear K13 P13 E13 L13;clear hba
    repeat' (first
     |(rw [hWn];clear hWn)
     |go_values|go_skip|go_guarded|refine wg ?_|go_step|go_upon)
    try rw [hab]
    clear hab;have hpb1:PB 1000002 (aM (aM k.aG p.d0 p.e0 1) p.d1 p.e1 1):=jT hpb0 _ _ _ (by decide) (by decide);have hpl1:(aM (aM k.aG p.d0 p.e0 1) p.d1 p.e1 1).length≤1000000:=by rw [fS];exact hpl0
    refine wp_region_noPanic ?_;refine go0 (S:=fun W=> (W.cell? ⟨b,4,none⟩=some v20)∧(W.cell? ⟨abE1,0,none⟩=some (.int .i64 p.d1))∧(W.cell? ⟨abE1,1,none⟩=some (.bool p.e1))) [11] (⟨aC K14.out 4,aC E1_14.out 0,aC E1_14.out 1⟩) fun hS=> ?_;obtain ⟨W15,hWd⟩:=exW W14.drew;obtain ⟨K15,P15,E1_15,E15,L15⟩:=n5 (dW hWd) K14 P14 E1_14 E14 L14;rw [hWd] at hS ⊢;clear hWd;clear K14 P14 E1_14 E14 L14;refine ts [.p 0,.p 1,.p 2,.p 3,.p 4,.l 5,.l 6] ?_;refine ro 7 fun K hK=> ?_;refine want rfl ?_;go_simp;refine (lZ v20 (aM k.aG p.d0 p.e0 1) p.d1 p.e1 1 _ L15.out.pi (by omega) (by decide) (hpb0.big (by decide))).mono ?_;rintro er W16 ⟨v21,rfl,hpi,hb⟩;obtain ⟨K16,P16,E1_16,E16,L16⟩:=n5 hb K15 P15 E1_15 E15 L15;clear K15 P15 E1_15 E15 L15;clear hb;have SPi16:=hU hpi;dsimp only;try clear hS
    refine nx hK (⟨aC K16.out 4,aC E1_16.out 0,aC E1_16.out 1⟩) fun hS=> ?_;clear hK K;(try simp only [aF])
    refine ts [.p 8,.p 9,.p 10] ?_;refine ro 11 fun K hK=> ?_;refine kRs v21 4 {y with h:=u8,pi:=v21} {k with h:=hl2,aG:=(aM (aM k.aG p.d0 p.e0 1) p.d1 p.e1 1)} fK K16 E16 SPi16 (L16.out.mJ SPi16.out) fun W17 hp L17 E17 K17=> ?_;have P17:=pT hp K16 P16;have E1_17:=pT hp K16 E1_16;have SPi17:=hU (SPi16.out.put K16.out hp (by decide));clear hp;clear K16 P16 E1_16 E16 L16 SPi16;refine nt hK ?_;clear hK K;try clear hS
    (try simp only [aF])
    refine aZ (by kernel_rfl) (NoPanic.normal ?_) _;try clear hS
    clear SPi17;clear E1_17;refine sg ?_;intros;rw [rounds_succ];obtain ⟨abE2,hab,hab1E2⟩:=nb0 E17;have habKE2:=nlt K17 hab;have habPE2:=nlt P17 hab;obtain ⟨W18,hWn,hba,E2_18⟩:=nb1 (.cells #[.int .i64 p.d2,.bool p.e2] 116) hab;obtain ⟨K18,P18,E18,L18⟩:=n4 hba K17 P17 E17 L17;clear K17 P17 E17 L17;clear hba
    repeat' (first
     |(rw [hWn];clear hWn)
     |go_values|go_skip|go_guarded|refine wg ?_|go_step|go_upon)
    try rw [hab]
    clear hab;have hpb2:PB 1000003 (aM (aM (aM k.aG p.d0 p.e0 1) p.d1 p.e1 1) p.d2 p.e2 1):=jT hpb1 _ _ _ (by decide) (by decide);have hpl2:(aM (aM (aM k.aG p.d0 p.e0 1) p.d1 p.e1 1) p.d2 p.e2 1).length≤1000000:=by rw [fS];exact hpl1
    refine wp_region_noPanic ?_;refine go0 (S:=fun W=> (W.cell? ⟨b,4,none⟩=some v21)∧(W.cell? ⟨abE2,0,none⟩=some (.int .i64 p.d2))∧(W.cell? ⟨abE2,1,none⟩=some (.bool p.e2))) [11] (⟨aC K18.out 4,aC E2_18.out 0,aC E2_18.out 1⟩) fun hS=> ?_;obtain ⟨W19,hWd⟩:=exW W18.drew;obtain ⟨K19,P19,E2_19,E19,L19⟩:=n5 (dW hWd) K18 P18 E2_18 E18 L18;rw [hWd] at hS ⊢;clear hWd;clear K18 P18 E2_18 E18 L18;refine ts [.p 0,.p 1,.p 2,.p 3,.p 4,.l 5,.l 6] ?_;refine ro 7 fun K hK=> ?_;refine want rfl ?_;go_simp;refine (lZ v21 (aM (aM k.aG p.d0 p.e0 1) p.d1 p.e1 1) p.d2 p.e2 1 _ L19.out.pi (by omega) (by decide) (hpb1.big (by decide))).mono ?_;rintro er W20 ⟨v22,rfl,hpi,hb⟩;obtain ⟨K20,P20,E2_20,E20,L20⟩:=n5 hb K19 P19 E2_19 E19 L19;clear K19 P19 E2_19 E19 L19;clear hb;have SPi20:=hU hpi;dsimp only;try clear hS
    refine nx hK (⟨aC K20.out 4,aC E2_20.out 0,aC E2_20.out 1⟩) fun hS=> ?_;clear hK K;(try simp only [aF])
    refine ts [.p 8,.p 9,.p 10] ?_;refine ro 11 fun K hK=> ?_;refine kRs v22 4 {y with h:=u8,pi:=v22} {k with h:=hl2,aG:=(aM (aM (aM k.aG p.d0 p.e0 1) p.d1 p.e1 1) p.d2 p.e2 1)} fK K20 E20 SPi20 (L20.out.mJ SPi20.out) fun W21 hp L21 E21 K21=> ?_;have P21:=pT hp K20 P20;have E2_21:=pT hp K20 E2_20;have SPi21:=hU (SPi20.out.put K20.out hp (by decide));clear hp;clear K20 P20 E2_20 E20 L20 SPi20;refine nt hK ?_;clear hK K;try clear hS
    (try simp only [aF])
    refine aZ (by kernel_rfl) (NoPanic.normal ?_) _;try clear hS
    clear SPi21;clear E2_21;refine sg ?_;intros;rw [rounds_succ];obtain ⟨abE3,hab,hab1E3⟩:=nb0 E21;have habKE3:=nlt K21 hab;have habPE3:=nlt P21 hab;obtain ⟨W22,hWn,hba,E3_22⟩:=nb1 (.cells #[.int .i64 p.d3,.bool p.e3] 116) hab;obtain ⟨K22,P22,E22,L22⟩:=n4 hba K21 P21 E21 L21;clear K21 P21 E21 L21;clear hba
    repeat' (first
     |(rw [hWn];clear hWn)
     |go_values|go_skip|go_guarded|refine wg ?_|go_step|go_upon)
    try rw [hab]
    clear hab;have hpb3:PB 1000004 (aM (aM (aM (aM k.aG p.d0 p.e0 1) p.d1 p.e1 1) p.d2 p.e2 1) p.d3 p.e3 1):=jT hpb2 _ _ _ (by decide) (by decide);have hpl3:(aM (aM (aM (aM k.aG p.d0 p.e0 1) p.d1 p.e1 1) p.d2 p.e2 1) p.d3 p.e3 1).length≤1000000:=by rw [fS];exact hpl2
    refine wp_region_noPanic ?_;refine go0 (S:=fun W=> (W.cell? ⟨b,4,none⟩=some v22)∧(W.cell? ⟨abE3,0,none⟩=some (.int .i64 p.d3))∧(W.cell? ⟨abE3,1,none⟩=some (.bool p.e3))) [11] (⟨aC K22.out 4,aC E3_22.out 0,aC E3_22.out 1⟩) fun hS=> ?_;obtain ⟨W23,hWd⟩:=exW W22.drew;obtain ⟨K23,P23,E3_23,E23,L23⟩:=n5 (dW hWd) K22 P22 E3_22 E22 L22;rw [hWd] at hS ⊢;clear hWd;clear K22 P22 E3_22 E22 L22;refine ts [.p 0,.p 1,.p 2,.p 3,.p 4,.l 5,.l 6] ?_;refine ro 7 fun K hK=> ?_;refine want rfl ?_;go_simp;refine (lZ v22 (aM (aM (aM k.aG p.d0 p.e0 1) p.d1 p.e1 1) p.d2 p.e2 1) p.d3 p.e3 1 _ L23.out.pi (by omega) (by decide) (hpb2.big (by decide))).mono ?_;rintro er W24 ⟨v23,rfl,hpi,hb⟩;obtain ⟨K24,P24,E3_24,E24,L24⟩:=n5 hb K23 P23 E3_23 E23 L23;clear K23 P23 E3_23 E23 L23;clear hb;have SPi24:=hU hpi;dsimp only;try clear hS
    refine nx hK (⟨aC K24.out 4,aC E3_24.out 0,aC E3_24.out 1⟩) fun hS=> ?_;clear hK K;(try simp only [aF])
    refine ts [.p 8,.p 9,.p 10] ?_;refine ro 11 fun K hK=> ?_;refine kRs v23 4 {y with h:=u8,pi:=v23} {k with h:=hl2,aG:=(aM (aM (aM (aM k.aG p.d0 p.e0 1) p.d1 p.e1 1) p.d2 p.e2 1) p.d3 p.e3 1)} fK K24 E24 SPi24 (L24.out.mJ SPi24.out) fun W25 hp L25 E25 K25=> ?_;have P25:=pT hp K24 P24;have E3_25:=pT hp K24 E3_24;have SPi25:=hU (SPi24.out.put K24.out hp (by decide));clear hp;clear K24 P24 E3_24 E24 L24 SPi24;refine nt hK ?_;clear hK K;try clear hS
    (try simp only [aF])
    refine aZ (by kernel_rfl) (NoPanic.normal ?_) _;try clear hS
    clear SPi25;clear E3_25;refine sg ?_;intros;rw [rounds_succ];refine sg ?_;intros;refine wp_region_noPanic ?_;refine go0 (S:=fun W=> (W.cell? ⟨b,0,none⟩=some y.p)∧(W.heap[w.heap.size]? =some (.cells (born p pid).cells 121 (0,0)))∧(W.cell? ⟨w.heap.size,0,none⟩=some (.int .i64 pid))∧(W.cell? ⟨b,1,none⟩=some y.t)∧(W.cell? ⟨b,2,none⟩=some (.int .i64 k.t.left))) [20,24] (⟨aC K25.out 0,P25.out,aC P25.out 0,aC K25.out 1,aC K25.out 2⟩) fun hS=> ?_;obtain ⟨W26,hWd⟩:=exW W25.drew;obtain ⟨K26,P26,E26,L26⟩:=n4 (dW hWd) K25 P25 E25 L25;rw [hWd] at hS ⊢;clear hWd;clear K25 P25 E25 L25;refine ts [.p 0,.p 1,.p 2,.p 3,.p 4,.p 5,.l 6] ?_;refine tv 7 (.agg (born p pid).cells) (fun W hSW=> aR rfl rfl (aD aL hSW.2.1 rfl)) ?_;(try simp only [aF])
    refine ts [.p 9,.p 10,.p 11,.p 12,.l 13,.p 14,.l 15] ?_;refine ro 8 fun K hK=> ?_;refine want rfl ?_;go_simp;refine (uV y.p k.p (born p pid) _ L26.out.p (by omega)).mono ?_;rintro er W27 ⟨v6,rfl,ho,hb⟩;obtain ⟨K27,P27,E27,L27⟩:=n4 hb K26 P26 E26 L26;clear K26 P26 E26 L26;clear hb;have SP27:=hU (KR.Own.sl eE ho);dsimp only;try clear hS
    refine nx hK (⟨aC K27.out 0,P27.out,aC P27.out 0,aC K27.out 1,aC K27.out 2⟩) fun hS=> ?_;clear hK K;(try simp only [aF])
    refine ro 16 fun K hK=> ?_;refine want rfl ?_;go_simp;refine (TAdd _ k.t pid _ ⟨y.t,rfl,L27.out.t⟩ (by omega)).mono ?_;rintro er W28 ⟨v7,rfl,⟨u7,rfl,ht7⟩,hb⟩;obtain ⟨K28,P28,E28,L28⟩:=n4 hb K27 P27 E27 L27;have SP28:=hU (SP27.out.below hb);clear K27 P27 E27 L27 SP27;clear hb;have ST28:=hU ht7;dsimp only;try clear hS
    refine nx hK (⟨aC K28.out 0,P28.out,aC P28.out 0,aC K28.out 1,aC K28.out 2⟩) fun hS=> ?_;clear hK K;(try simp only [aF])
    refine ts [.p 17,.p 18,.p 19] ?_;refine ro 20 fun K hK=> ?_;refine kRs v6 0 {y with h:=u8,pi:=v23,p:=v6} {k with h:=hl2,aG:=eC k.aG p 1,p:=put k.p (born p pid)} eY K28 E28 SP28 (L28.out.pZ SP28.out) fun W29 hp L29 E29 K29=> ?_;have P29:=pT hp K28 P28;have SP29:=hU (SP28.out.put K28.out hp (by decide));have ST29:=hU (ST28.out.put K28.out hp (by decide));clear hp;clear K28 P28 E28 L28 SP28 ST28;refine nt hK ?_;clear hK K;try clear hS
    (try simp only [aF])
    refine ts [.p 21,.p 22,.p 23] ?_;refine ro 24 fun K hK=> ?_;refine want rfl ?_;refine cL (v:=.agg #[u7,.int .i64 (iE k.t pid).left]) (off:=1) (new:=aJ {y with h:=u8,pi:=v23,p:=v6,t:=u7} {k with h:=hl2,aG:=eC k.aG p 1,p:=put k.p (born p pid),t:=iE k.t pid}) rfl rfl rfl cM.size K29.out rfl (show 1 + 2≤17 by decide) (uK ST29.out) rfl ?_;intro W30 hp;have L30:Hid (aH W30 {y with h:=u8,pi:=v23,p:=v6,t:=u7} bs {k with h:=hl2,aG:=eC k.aG p 1,p:=put k.p (born p pid),t:=iE k.t pid}):=hU ((L29.out.setT ST29.out).put K29.out cI hp);have E30:=pK hp E29;have K30:Hid (W30.heap[b]? =some (.cells (aJ {y with h:=u8,pi:=v23,p:=v6,t:=u7} {k with h:=hl2,aG:=eC k.aG p 1,p:=put k.p (born p pid),t:=iE k.t pid}) 104 (0,0))):=pA hp;have P30:=pT hp K29 P29;have SP30:=hU (SP29.out.put K29.out hp (by decide));have ST30:=hU (ST29.out.put K29.out hp (by decide));clear hp;clear K29 P29 E29 L29 SP29 ST29;refine nt hK ?_;clear hK K;try clear hS
    (try simp only [aF])
    refine aZ (by kernel_rfl) (NoPanic.normal ?_) _;try clear hS
    have kp9:W30.cell? ⟨w.heap.size,0,none⟩=some (.int .i64 pid):=aC P30.out 0;refine sg ?_;intros;go_ret2
    rw [HTE.out,HTV.out,HTF.out,if_pos rfl,if_pos rfl];exact ⟨by first|rfl|(congr 3;simp [IntKind.wrap_u32]),⟨_,_,K30.out,L30.out⟩,E30.out⟩
