/- work.answer: a call is answered. Conditions: as told. -/
import Derived.Test.YtfncknignkndiaaGreatDoorGWork
set_option linter.unusedVariables false
set_option maxRecDepth 100000
set_option maxHeartbeats 8000000
set_option linter.unusedSimpArgs false
namespace Go.Proofs.YtfncknignkndiaaGreatDoor
open Tryz
open Go.RowKit KR RegT3
namespace Kn
theorem qWp (a:Option Addr) (n c:Nat) (w:World) (h:n≤c):Calls prog 125 #[.slice a n c] w (Is (.slice a n n) w):=by
 go_in;refine sg ?_;intros;go_ret;exact ⟨rfl,rfl⟩
theorem fL (b:Nat) (k:aI) (p:Proc) (x:Call) (v e:Int) (w:World) (hk:cH w b k) (he0:0≤e) (he1:e<100) (hn:k.p.length≤1000000) (ht:k.trace.length≤1000000):
 Calls prog 82 #[.pointer (some ⟨b,0,none⟩),.agg p.cells,.agg x.cells,.int .u32 v,.int .i64 e] w (oY b (answer k p x v e) w):=by
 obtain ⟨y,bs,hk0,hl⟩:=hk;have hbl:=hlt hk0;go_in;obtain ⟨W0,hW0,K0,P0,X0,E0,L0,hz0,hzK,hzP,hzX⟩:=st2 p.cells 121 x.cells 119 hk0 hl
 repeat' (first
  |(rw [hW0];clear hW0)
  |(refine aE (t:=114) (v:=.agg (eX p.r0 p.r1 p.r2 p.r3 p.r4 p.r5 p.r6 p.r7 p.pc)) rfl rfl rfl (cB gT P0.out rfl rfl) ?_)
  |go_values|go_skip|go_guarded|refine wg ?_|go_step|go_upon)
 refine (qYi p.r0 p.r1 p.r2 p.r3 p.r4 p.r5 p.r6 p.r7 p.pc e v _ he0 he1).mono ?_;rintro er W1 ⟨rfl,hb⟩;obtain ⟨K1,P1,X1,E1,L1⟩:=n5 hb K0 P0 X0 E0 L0;clear K0 P0 X0 E0 L0;clear hb;dsimp only
 repeat' (first
  |(refine sN 114 (.agg (eX (pC e v) p.r1 p.r2 p.r3 p.r4 p.r5 p.r6 p.r7 p.pc)) 3 (({p with r0:=pC e v}:Proc).cells) gT.size P1.out (by intro u hu;simp [Value.cells,eX] at hu;rcases hu with rfl|rfl|rfl|rfl|rfl|rfl|rfl|rfl|rfl <;> rfl) fun W2 hp=> ?_
    have E2:=pE hp E1;have L2:Hid (aH W2 y bs k):=hU (hl.kept hk0 cI E2.out);have P2:=pA hp;have K2:=pT hp P1 K1;have X2:=pT hp P1 X1;clear hp;clear K1 P1 X1 E1 L1)
  |(refine aP (t:=3) (v:=.int .i64 1) (off:=2) (new:=({p with r0:=pC e v,st:=1}:Proc).cells) rfl rfl rfl rfl cO P2.out rfl rfl (show 2 + 1≤26 by decide) rfl ?_;intro W3 hp
    have E3:=pE hp E2;have L3:Hid (aH W3 y bs k):=hU (hl.kept hk0 cI E3.out);have P3:=pA hp;have K3:=pT hp P2 K2;have X3:=pT hp P2 X2;clear hp;clear K2 P2 X2 E2 L2)
  |(refine sN 119 (.agg #[.int .u32 0,.int .u32 0,.int .u32 0,.int .u32 0]) 22 ((back p v e).cells) dD.size P3.out (by intro u hu;simp [Value.cells] at hu;subst hu;rfl) fun W4 hp=> ?_
    have E4:=pE hp E3;have L4:Hid (aH W4 y bs k):=hU (hl.kept hk0 cI E4.out);have P4:=pA hp;have K4:=pT hp P3 K3;have X4:=pT hp P3 X3;clear hp;clear K3 P3 X3 E3 L3)
  |go_values|go_skip|go_guarded|refine wg ?_|go_step|go_upon)
 refine wp_region_noPanic ?_;refine go0 (S:=fun W=> (W.cell? ⟨b,0,none⟩=some y.p)∧(W.heap[w.heap.size]? =some (.cells (back p v e).cells 121 (0,0)))) [11] (⟨aC K4.out 0,P4.out⟩) fun hS=> ?_;obtain ⟨W5,hWd⟩:=exW W4.drew;obtain ⟨K5,P5,X5,E5,L5⟩:=n5 (dW hWd) K4 P4 X4 E4 L4;rw [hWd] at hS ⊢;clear hWd;clear K4 P4 X4 E4 L4;refine ts [.p 0,.p 1,.p 2,.p 3,.p 4,.l 5] ?_;refine tv 6 (.agg (back p v e).cells) (fun W hSW=> aR rfl rfl (aD aL hSW.2 rfl)) ?_;(try simp only [aF])
 refine ro 7 fun K hK=> ?_;refine want rfl ?_;go_simp;refine (uV y.p k.p (back p v e) _ L5.out.p (by omega)).mono ?_;rintro er W6 ⟨v6,rfl,ho,hb⟩;obtain ⟨K6,P6,X6,E6,L6⟩:=n5 hb K5 P5 X5 E5 L5;clear K5 P5 X5 E5 L5;clear hb;have SP6:=hU (KR.Own.sl eE ho);dsimp only;try clear hS
 refine nx hK (⟨aC K6.out 0,P6.out⟩) fun hS=> ?_;clear hK K;(try simp only [aF])
 refine ts [.p 8,.p 9,.p 10] ?_;refine ro 11 fun K hK=> ?_;refine kRs v6 0 {y with p:=v6} {k with p:=put k.p (back p v e)} eY K6 E6 SP6 (L6.out.pZ SP6.out) fun W7 hp L7 E7 K7=> ?_;have P7:=pT hp K6 P6;have X7:=pT hp K6 X6;have SP7:=hU (SP6.out.put K6.out hp (by decide));clear hp;clear K6 P6 X6 E6 L6 SP6;refine nt hK ?_;clear hK K;try clear hS
 (try simp only [aF])
 refine aZ (by kernel_rfl) (NoPanic.normal ?_) _;try clear hS
 clear SP7;refine sg ?_;intros;obtain ⟨ta,tc,htr,htc,_⟩:=L7.out.tr.shape;have HTR:=hU htr;clear htr;dsimp only at htc HTR;refine wp_region_noPanic ?_;refine go0 (S:=fun W=> (W.cell? ⟨b,13,none⟩=some (.slice ta k.trace.length tc))∧(W.cell? ⟨w.heap.size,0,none⟩=some (.int .i64 p.pid))∧(W.cell? ⟨w.heap.size + 1,0,none⟩=some (.int .u32 x.n))∧(W.cell? ⟨b,7,none⟩=some (.int .u64 k.now))) [25] (⟨((aC K7.out 13).trans (congrArg some HTR.out)),aC P7.out 0,aC X7.out 0,aC K7.out 7⟩) fun hS=> ?_;obtain ⟨W8,hWd⟩:=exW W7.drew;obtain ⟨K8,P8,X8,E8,L8⟩:=n5 (dW hWd) K7 P7 X7 E7 L7;rw [hWd] at hS ⊢;clear hWd;clear K7 P7 X7 E7 L7;refine ts [.p 0,.p 1,.p 2,.p 3,.p 4,.l 5,.p 7,.l 8,.p 9,.l 10,.p 11,.p 12,.p 14,.p 15,.p 16,.p 17,.l 18] ?_;refine ro 6 fun K hK=> ?_;refine want rfl ?_;go_simp;refine (qWp _ _ _ _ htc).mono ?_;rintro er Wx ⟨rfl,rfl⟩;dsimp only;try clear hS
 refine nx hK (⟨((aC K8.out 13).trans (congrArg some HTR.out)),aC P8.out 0,aC X8.out 0,aC K8.out 7⟩) fun hS=> ?_;clear hK K;(try simp only [aF])
 refine ro 13 fun K hK=> ?_;refine want rfl ?_;go_simp;refine (qNd e v _ he0 he1).mono ?_;rintro er W9 ⟨rfl,hb⟩;obtain ⟨K9,P9,X9,E9,L9⟩:=n5 hb K8 P8 X8 E8 L8;clear K8 P8 X8 E8 L8;clear hb;dsimp only;try clear hS
 refine nx hK (⟨((aC K9.out 13).trans (congrArg some HTR.out)),aC P9.out 0,aC X9.out 0,aC K9.out 7⟩) fun hS=> ?_;clear hK K;(try simp only [aF])
 refine tp 19 ?_;try simp only [aF]
 refine ro 20 fun K hK=> ?_;go_simp;obtain ⟨W10,hWn,hba,hnw⟩:=nb2 W9 (.cells #[.int .i64 p.pid,.int .u32 x.n,.int .u32 (pC e v),.int .u64 k.now] 127);rw [hWn];clear hWn;obtain ⟨K10,P10,X10,E10,L10⟩:=n5 hba K9 P9 X9 E9 L9;clear K9 P9 X9 E9 L9;clear hba;try clear hS
 refine nx hK (⟨((aC K10.out 13).trans (congrArg some HTR.out)),aC P10.out 0,aC X10.out 0,aC K10.out 7⟩) fun hS=> ?_;clear hK K;(try simp only [aF])
 obtain ⟨v9,W11,hrun,hown,hb⟩:=jQ (P:=prog) (bytes:=24) (t:=38) (ty:=38) szEv (by decide) underlying38 (by kernel_rfl) qXc (w:=W10) (a:=ta) (n:=k.trace.length) (c:=1) (l:=k.trace) (by have h:=L10.out.tr;dsimp only at h;rw [HTR.out] at h;exact Sl.clip h) (x:=⟨p.pid,x.n,pC e v,k.now⟩) (xb:=W9.heap.size) hnw (by unfold maxLen;omega) (by omega);have HRUN:=hU hrun;refine ro 21 fun K hK=> ?_;refine want rfl ?_;refine jK _ _ _ _ rfl _ _ rfl rfl _ _ HRUN.out ?_;obtain ⟨K11,P11,X11,E11,L11⟩:=n5 hb K10 P10 X10 E10 L10;clear K10 P10 X10 E10 L10;have ST11:=hU (KR.Own.sl szEv hown);clear hb hown hrun HRUN hnw;try clear hS
 refine nx hK (⟨((aC K11.out 13).trans (congrArg some HTR.out)),aC P11.out 0,aC X11.out 0,aC K11.out 7⟩) fun hS=> ?_;clear hK K;(try simp only [aF])
 refine ts [.p 22,.p 23,.p 24] ?_;refine ro 25 fun K hK=> ?_;refine kRs v9 13 {y with p:=v6,tr:=v9} (answer k p x v e) qPp K11 E11 ST11 (L11.out.qUn ST11.out) fun W12 hp L12 E12 K12=> ?_;have P12:=pT hp K11 P11;have X12:=pT hp K11 X11;have ST12:=hU (ST11.out.put K11.out hp (by decide));clear hp;clear K11 P11 X11 E11 L11 ST11;refine nt hK ?_;clear hK K;try clear hS
 (try simp only [aF])
 refine aZ (by kernel_rfl) (NoPanic.normal ?_) _;try clear hS
 clear ST12;refine sg ?_;intros;go_end0
 exact ⟨⟨_,rfl⟩,⟨_,_,K12.out,L12.out⟩,E12.out⟩
theorem qOi (b:Nat) (k:aI) (p:Proc) (st:Int) (x:Call) (w:World) (hk:cH w b k) (hn:k.p.length≤1000000) (ht:k.t.l.length≤1000000):
 Calls prog 135 #[.pointer (some ⟨b,0,none⟩),.agg p.cells,.int .i64 st,.agg x.cells] w (oY b (stops k p st x) w):=by
 obtain ⟨y,bs,hk0,hl⟩:=hk;have hbl:=hlt hk0;obtain ⟨W0,hW0,K0,P0,X0,E0,L0,hz0,hzK,hzP,hzX⟩:=st2 p.cells 121 x.cells 119 hk0 hl;go_in
 repeat' (first
  |(rw [hW0];clear hW0)
  |go_values|go_skip|go_guarded|refine wg ?_|go_step|go_upon)
 refine wp_region_noPanic ?_;refine go0 (S:=fun W=> (W.heap[w.heap.size + 1]? =some (.cells x.cells 119 (0,0)))) [] (X0.out) fun hS=> ?_;obtain ⟨W1,hWd⟩:=exW W0.drew;obtain ⟨K1,P1,X1,E1,L1⟩:=n5 (dW hWd) K0 P0 X0 E0 L0;rw [hWd] at hS ⊢;clear hWd;clear K0 P0 X0 E0 L0;refine tp 0 ?_;try simp only [aF]
 refine tv 1 (.agg x.cells) (fun W hSW=> aR rfl rfl (aD dD hSW rfl)) ?_;(try simp only [aF])
 refine tp 2 ?_;try simp only [aF]
 refine ro 3 fun K hK=> ?_;refine want rfl ?_;refine fU (v:=.int .i64 st) (off:=2) (new:=({p with st:=st}:Proc).cells) rfl rfl rfl cO P1.out rfl rfl (show 2 + 1≤26 by decide) rfl ?_;intro W2 hp;have E2:=pE hp E1;have L2:Hid (aH W2 y bs k):=hU (hl.kept hk0 cI E2.out);have P2:=pA hp;have K2:=pT hp P1 K1;have X2:=pT hp P1 X1;clear hp;clear K1 P1 X1 E1 L1;try clear hS
 refine nx hK (X2.out) fun hS=> ?_;clear hK K;(try simp only [aF])
 refine tp 4 ?_;try simp only [aF]
 refine ro 5 fun K hK=> ?_;refine want rfl ?_;refine cL (v:=.agg x.cells) (off:=22) (new:=({p with st:=st,wn:=x.n,wa:=x.a,wb:=x.b,wc:=x.c}:Proc).cells) rfl rfl rfl dD.size P2.out rfl (show 22 + 4≤26 by decide) (qZv x) rfl ?_;intro W3 hp;have E3:=pE hp E2;have L3:Hid (aH W3 y bs k):=hU (hl.kept hk0 cI E3.out);have P3:=pA hp;have K3:=pT hp P2 K2;have X3:=pT hp P2 X2;clear hp;clear K2 P2 X2 E2 L2;try clear hS
 refine nx hK (X3.out) fun hS=> ?_;clear hK K;(try simp only [aF])
 refine aZ (by kernel_rfl) (NoPanic.normal ?_) _;try clear hS
 refine sg ?_;intros;obtain ⟨p2,hp2⟩:∃ p2:Proc,({p with st:=st,wn:=x.n,wa:=x.a,wb:=x.b,wc:=x.c}:Proc)=p2:=⟨_,rfl⟩
 have HPID:Hid (p2.pid=p.pid):=hU (by rw [← hp2]);have HP2:=hU hp2;rw [hp2] at P3;clear hp2;refine wp_region_noPanic ?_;refine go0 (S:=fun W=> (W.cell? ⟨b,0,none⟩=some y.p)∧(W.heap[w.heap.size]? =some (.cells p2.cells 121 (0,0)))∧(W.cell? ⟨w.heap.size,0,none⟩=some (.int .i64 p2.pid))∧(W.cell? ⟨b,1,none⟩=some y.t)∧(W.cell? ⟨b,2,none⟩=some (.int .i64 k.t.left))) [20,24] (⟨aC K3.out 0,P3.out,aC P3.out 0,aC K3.out 1,aC K3.out 2⟩) fun hS=> ?_;obtain ⟨W4,hWd⟩:=exW W3.drew;obtain ⟨K4,P4,X4,E4,L4⟩:=n5 (dW hWd) K3 P3 X3 E3 L3;rw [hWd] at hS ⊢;clear hWd;clear K3 P3 X3 E3 L3;refine ts [.p 0,.p 1,.p 2,.p 3,.p 4,.p 5,.l 6] ?_;refine tv 7 (.agg p2.cells) (fun W hSW=> aR rfl rfl (aD aL hSW.2.1 rfl)) ?_;(try simp only [aF])
 refine ts [.p 9,.p 10,.p 11,.p 12,.l 13,.p 14,.l 15] ?_;refine ro 8 fun K hK=> ?_;refine want rfl ?_;go_simp;refine (uV y.p k.p p2 _ L4.out.p (by omega)).mono ?_;rintro er W5 ⟨v6,rfl,ho,hb⟩;obtain ⟨K5,P5,X5,E5,L5⟩:=n5 hb K4 P4 X4 E4 L4;clear K4 P4 X4 E4 L4;clear hb;have SP5:=hU (KR.Own.sl eE ho);dsimp only;try clear hS
 refine nx hK (⟨aC K5.out 0,P5.out,aC P5.out 0,aC K5.out 1,aC K5.out 2⟩) fun hS=> ?_;clear hK K;(try simp only [aF])
 refine ro 16 fun K hK=> ?_;refine want rfl ?_;go_simp;refine (qUe _ k.t p2.pid _ ⟨y.t,rfl,L5.out.t⟩ (by omega)).mono ?_;rintro er W6 ⟨v7,rfl,⟨u7,rfl,ht7⟩,hb⟩;obtain ⟨K6,P6,X6,E6,L6⟩:=n5 hb K5 P5 X5 E5 L5;have SP6:=hU (SP5.out.below hb);clear K5 P5 X5 E5 L5 SP5;clear hb;have ST6:=hU ht7;dsimp only;try clear hS
 refine nx hK (⟨aC K6.out 0,P6.out,aC P6.out 0,aC K6.out 1,aC K6.out 2⟩) fun hS=> ?_;clear hK K;(try simp only [aF])
 refine ts [.p 17,.p 18,.p 19] ?_;refine ro 20 fun K hK=> ?_;refine kRs v6 0 {y with p:=v6} {k with p:=put k.p p2} eY K6 E6 SP6 (L6.out.pZ SP6.out) fun W7 hp L7 E7 K7=> ?_;have P7:=pT hp K6 P6;have X7:=pT hp K6 X6;have SP7:=hU (SP6.out.put K6.out hp (by decide));have ST7:=hU (ST6.out.put K6.out hp (by decide));clear hp;clear K6 P6 X6 E6 L6 SP6 ST6;refine nt hK ?_;clear hK K;try clear hS
 (try simp only [aF])
 refine ts [.p 21,.p 22,.p 23] ?_;refine ro 24 fun K hK=> ?_;refine want rfl ?_;refine cL (v:=.agg #[u7,.int .i64 (eZ k.t p2.pid).left]) (off:=1) (new:=aJ {y with p:=v6,t:=u7} {k with p:=put k.p p2,t:=eZ k.t p2.pid}) rfl rfl rfl cM.size K7.out rfl (show 1 + 2≤17 by decide) (uK ST7.out) rfl ?_;intro W8 hp;have L8:Hid (aH W8 {y with p:=v6,t:=u7} bs {k with p:=put k.p p2,t:=eZ k.t p2.pid}):=hU ((L7.out.setT ST7.out).put K7.out cI hp);have E8:=pK hp E7;have K8:Hid (W8.heap[b]? =some (.cells (aJ {y with p:=v6,t:=u7} {k with p:=put k.p p2,t:=eZ k.t p2.pid}) 104 (0,0))):=pA hp;have P8:=pT hp K7 P7;have X8:=pT hp K7 X7;have SP8:=hU (SP7.out.put K7.out hp (by decide));have ST8:=hU (ST7.out.put K7.out hp (by decide));clear hp;clear K7 P7 X7 E7 L7 SP7 ST7;refine nt hK ?_;clear hK K;try clear hS
 (try simp only [aF])
 refine aZ (by kernel_rfl) (NoPanic.normal ?_) _;try clear hS
 refine sg ?_;intros;go_end0
 have hst:stops k p st x={k with p:=put k.p p2,t:=eZ k.t p2.pid}:=by rw [stops,HPID.out,HP2.out]
 rw [hst];exact ⟨⟨_,rfl⟩,⟨_,_,K8.out,L8.out⟩,E8.out⟩
end Kn
end Go.Proofs.YtfncknignkndiaaGreatDoor
namespace Go.Proofs.YtfncknignkndiaaGreatDoor
open Tryz
open Go.RowKit KR
namespace Kn
def mQ (k:aI) (p:Proc) (n:Int):Array Value:=if jJ k p n=true then #[.int .i64 (gC p n.toNat).1,.bool (gC p n.toNat).2] else #[.int .i64 0,.bool false]
theorem oP {k:aI} {p:Proc} {n:Int} (h:4≤n∨(gC p n.toNat).1<1∨(k.aG.length:Int)<(gC p n.toNat).1):jJ k p n=false:=by
 unfold jJ;rcases h with h|h|h <;> simp [h]
theorem qLx {k:aI} {p:Proc} {n:Int} (h1:¬ 4≤n) (h2:¬ (gC p n.toNat).1<1) (h3:¬ (k.aG.length:Int)<(gC p n.toNat).1):jJ k p n=true:=by
 unfold jJ;simp [h1,h2,h3]
theorem WEnd (b:Nat) (k:aI) (p:Proc) (n:Int) (w:World) (hk:cH w b k) (n0:0≤n) (n1:n<4294967296):
 Calls prog 215 #[.pointer (some ⟨b,0,none⟩),.agg p.cells,.int .u32 n] w (aN (.tuple #[.agg (mQ k p n),.bool (jJ k p n)]) w):=by
 obtain ⟨y,bs,hk0,hl⟩:=hk;have hbl:=hlt hk0;obtain ⟨pa,pc,hpi,hpc,_⟩:=hl.pi.shape;obtain ⟨q0,q1⟩:=eF w w.heap.size (.cells p.cells 121) (.cells #[.int .i64 0,.bool false] 116) rfl;have hb0:Below w.heap.size w ((w.alloc (.cells p.cells 121)).alloc (.cells #[.int .i64 0,.bool false] 116)):=bel;have hkk:=(hb0.block b hbl).trans hk0;obtain ⟨W0,hW0⟩:∃ W0,((w.alloc (.cells p.cells 121)).alloc (.cells #[.int .i64 0,.bool false] 116))=W0:=⟨_,rfl⟩
 rw [hW0] at hb0 q0 q1 hkk;have kpi:W0.cell? ⟨b,4,none⟩=some (.slice pa k.aG.length pc):=(show W0.cell? ⟨b,4,none⟩=some y.pi from aC hkk 4).trans (congrArg some hpi);have HP:=hU q0;have HR:=hU q1;have HB:=hU hb0;have hzb:b<W0.heap.size:=hlt hkk;have hzp:w.heap.size<W0.heap.size:=hlt q0;have HNO:=hU (@oP k p n);have HYES:=hU (@qLx k p n);clear hkk q0 q1 hb0 hpi;by_cases h4:4≤n
 · have he:=HNO.out (.inl h4);unfold mQ;rw [he];have hd:decide (4≤n)=true:=by simpa using h4
   go_in
   repeat' (first
    |(rw [hW0];clear hW0)
    |(refine sN 116 (.agg #[.int .i64 0,.bool false]) 0 #[.int .i64 0,.bool false] cN.size (show _ from HR.out) (by intro u hu;simp [Value.cells] at hu;rcases hu with rfl|rfl <;> rfl) fun W1 hp=> ?_)
    |go_values|go_skip|go_guarded|refine wg ?_|go_step|go_upon|go_quiet (fail))
   (try simp only [Exit.inBlock,Exit.then]);refine bodyPost_ret (aT results215 cN rfl hp.at_ rfl) rfl ?_
   exact ⟨rfl,Below.put (below_drewN HB.out _) hp (by omega)⟩
 have hcase:n=0∨n=1∨n=2∨n=3:=by omega
 rcases hcase with hn|hn|hn|hn
 · subst hn;have HGF:Hid ((gC p ((0:Int)).toNat)=(p.d0,p.e0)):=hU rfl;have hcd:W0.cell? ⟨w.heap.size,14,none⟩=some (.int .i64 p.d0):=aC HP.out 14;by_cases h1:p.d0<1
   · have he:=HNO.out (.inr (.inl h1));unfold mQ;rw [he];have hd1:decide (p.d0<1)=true:=by simpa using h1
     clear HNO HYES;go_in
     repeat' (first
      |(rw [hW0];clear hW0)
      |(refine sN 116 (.agg #[.int .i64 0,.bool false]) 0 #[.int .i64 0,.bool false] cN.size (show _ from HR.out) (by intro u hu;simp [Value.cells] at hu;rcases hu with rfl|rfl <;> rfl) fun W1 hp=> ?_)
      |go_values|go_skip|go_guarded|refine wg ?_|go_step|go_upon|go_quiet (fail))
     (try simp only [Exit.inBlock,Exit.then]);refine bodyPost_ret (aT results215 cN rfl hp.at_ rfl) rfl ?_
     exact ⟨rfl,Below.put (below_drewN HB.out _) hp (by omega)⟩
   by_cases h2:(k.aG.length:Int)<p.d0
   · have he:=HNO.out (.inr (.inr h2));unfold mQ;rw [he];have hd1:decide (p.d0<1)=false:=by simpa using h1
     have hd2:decide ((k.aG.length:Int)<p.d0)=true:=by simpa using h2
     clear HNO HYES;go_in
     repeat' (first
      |(rw [hW0];clear hW0)
      |(refine sN 116 (.agg #[.int .i64 0,.bool false]) 0 #[.int .i64 0,.bool false] cN.size (show _ from HR.out) (by intro u hu;simp [Value.cells] at hu;rcases hu with rfl|rfl <;> rfl) fun W1 hp=> ?_)
      |go_values|go_skip|go_guarded|refine wg ?_|go_step|go_upon|go_quiet (fail))
     (try simp only [Exit.inBlock,Exit.then]);refine bodyPost_ret (aT results215 cN rfl hp.at_ rfl) rfl ?_
     exact ⟨rfl,Below.put (below_drewN HB.out _) hp (by omega)⟩
   have he:=HYES.out (by decide) h1 h2;have hv:mQ k p 0=#[.int .i64 p.d0,.bool p.e0]:=by unfold mQ;rw [if_pos he];rfl
   rw [hv,he];have hd1:decide (p.d0<1)=false:=by simpa using h1
   have hd2:decide ((k.aG.length:Int)<p.d0)=false:=by simpa using h2
   clear HNO HYES;go_in
   repeat' (first
    |(rw [hW0];clear hW0)
    |(refine aE (t:=116) (v:=.agg #[.int .i64 p.d0,.bool p.e0]) rfl rfl rfl (cB cN (show _ from HP.out) (o:=14) rfl rfl) ?_)
    |(refine sN 116 (.agg #[.int .i64 p.d0,.bool p.e0]) 0 #[.int .i64 p.d0,.bool p.e0] cN.size (show _ from HR.out) (by intro u hu;simp [Value.cells] at hu;rcases hu with rfl|rfl <;> rfl) fun W1 hp=> ?_)
    |go_values|go_skip|go_guarded|refine wg ?_|go_step|go_upon|go_quiet (fail))
   (try simp only [Exit.inBlock,Exit.then]);refine bodyPost_ret (aT results215 cN rfl hp.at_ rfl) rfl ?_
   exact ⟨rfl,Below.put (below_drewN HB.out _) hp (by omega)⟩
 · subst hn;have HGF:Hid ((gC p ((1:Int)).toNat)=(p.d1,p.e1)):=hU rfl;have hcd:W0.cell? ⟨w.heap.size,16,none⟩=some (.int .i64 p.d1):=aC HP.out 16;by_cases h1:p.d1<1
   · have he:=HNO.out (.inr (.inl h1));unfold mQ;rw [he];have hd1:decide (p.d1<1)=true:=by simpa using h1
     clear HNO HYES;go_in
     repeat' (first
      |(rw [hW0];clear hW0)
      |(refine sN 116 (.agg #[.int .i64 0,.bool false]) 0 #[.int .i64 0,.bool false] cN.size (show _ from HR.out) (by intro u hu;simp [Value.cells] at hu;rcases hu with rfl|rfl <;> rfl) fun W1 hp=> ?_)
      |go_values|go_skip|go_guarded|refine wg ?_|go_step|go_upon|go_quiet (fail))
     (try simp only [Exit.inBlock,Exit.then]);refine bodyPost_ret (aT results215 cN rfl hp.at_ rfl) rfl ?_
     exact ⟨rfl,Below.put (below_drewN HB.out _) hp (by omega)⟩
   by_cases h2:(k.aG.length:Int)<p.d1
   · have he:=HNO.out (.inr (.inr h2));unfold mQ;rw [he];have hd1:decide (p.d1<1)=false:=by simpa using h1
     have hd2:decide ((k.aG.length:Int)<p.d1)=true:=by simpa using h2
     clear HNO HYES;go_in
     repeat' (first
      |(rw [hW0];clear hW0)
      |(refine sN 116 (.agg #[.int .i64 0,.bool false]) 0 #[.int .i64 0,.bool false] cN.size (show _ from HR.out) (by intro u hu;simp [Value.cells] at hu;rcases hu with rfl|rfl <;> rfl) fun W1 hp=> ?_)
      |go_values|go_skip|go_guarded|refine wg ?_|go_step|go_upon|go_quiet (fail))
     (try simp only [Exit.inBlock,Exit.then]);refine bodyPost_ret (aT results215 cN rfl hp.at_ rfl) rfl ?_
     exact ⟨rfl,Below.put (below_drewN HB.out _) hp (by omega)⟩
   have he:=HYES.out (by decide) h1 h2;have hv:mQ k p 1=#[.int .i64 p.d1,.bool p.e1]:=by unfold mQ;rw [if_pos he];rfl
   rw [hv,he];have hd1:decide (p.d1<1)=false:=by simpa using h1
   have hd2:decide ((k.aG.length:Int)<p.d1)=false:=by simpa using h2
   clear HNO HYES;go_in
   repeat' (first
    |(rw [hW0];clear hW0)
    |(refine aE (t:=116) (v:=.agg #[.int .i64 p.d1,.bool p.e1]) rfl rfl rfl (cB cN (show _ from HP.out) (o:=16) rfl rfl) ?_)
    |(refine sN 116 (.agg #[.int .i64 p.d1,.bool p.e1]) 0 #[.int .i64 p.d1,.bool p.e1] cN.size (show _ from HR.out) (by intro u hu;simp [Value.cells] at hu;rcases hu with rfl|rfl <;> rfl) fun W1 hp=> ?_)
    |go_values|go_skip|go_guarded|refine wg ?_|go_step|go_upon|go_quiet (fail))
   (try simp only [Exit.inBlock,Exit.then]);refine bodyPost_ret (aT results215 cN rfl hp.at_ rfl) rfl ?_
   exact ⟨rfl,Below.put (below_drewN HB.out _) hp (by omega)⟩
 · subst hn;have HGF:Hid ((gC p ((2:Int)).toNat)=(p.d2,p.e2)):=hU rfl;have hcd:W0.cell? ⟨w.heap.size,18,none⟩=some (.int .i64 p.d2):=aC HP.out 18;by_cases h1:p.d2<1
   · have he:=HNO.out (.inr (.inl h1));unfold mQ;rw [he];have hd1:decide (p.d2<1)=true:=by simpa using h1
     clear HNO HYES;go_in
     repeat' (first
      |(rw [hW0];clear hW0)
      |(refine sN 116 (.agg #[.int .i64 0,.bool false]) 0 #[.int .i64 0,.bool false] cN.size (show _ from HR.out) (by intro u hu;simp [Value.cells] at hu;rcases hu with rfl|rfl <;> rfl) fun W1 hp=> ?_)
      |go_values|go_skip|go_guarded|refine wg ?_|go_step|go_upon|go_quiet (fail))
     (try simp only [Exit.inBlock,Exit.then]);refine bodyPost_ret (aT results215 cN rfl hp.at_ rfl) rfl ?_
     exact ⟨rfl,Below.put (below_drewN HB.out _) hp (by omega)⟩
   by_cases h2:(k.aG.length:Int)<p.d2
   · have he:=HNO.out (.inr (.inr h2));unfold mQ;rw [he];have hd1:decide (p.d2<1)=false:=by simpa using h1
     have hd2:decide ((k.aG.length:Int)<p.d2)=true:=by simpa using h2
     clear HNO HYES;go_in
     repeat' (first
      |(rw [hW0];clear hW0)
      |(refine sN 116 (.agg #[.int .i64 0,.bool false]) 0 #[.int .i64 0,.bool false] cN.size (show _ from HR.out) (by intro u hu;simp [Value.cells] at hu;rcases hu with rfl|rfl <;> rfl) fun W1 hp=> ?_)
      |go_values|go_skip|go_guarded|refine wg ?_|go_step|go_upon|go_quiet (fail))
     (try simp only [Exit.inBlock,Exit.then]);refine bodyPost_ret (aT results215 cN rfl hp.at_ rfl) rfl ?_
     exact ⟨rfl,Below.put (below_drewN HB.out _) hp (by omega)⟩
   have he:=HYES.out (by decide) h1 h2;have hv:mQ k p 2=#[.int .i64 p.d2,.bool p.e2]:=by unfold mQ;rw [if_pos he];rfl
   rw [hv,he];have hd1:decide (p.d2<1)=false:=by simpa using h1
   have hd2:decide ((k.aG.length:Int)<p.d2)=false:=by simpa using h2
   clear HNO HYES;go_in
   repeat' (first
    |(rw [hW0];clear hW0)
    |(refine aE (t:=116) (v:=.agg #[.int .i64 p.d2,.bool p.e2]) rfl rfl rfl (cB cN (show _ from HP.out) (o:=18) rfl rfl) ?_)
    |(refine sN 116 (.agg #[.int .i64 p.d2,.bool p.e2]) 0 #[.int .i64 p.d2,.bool p.e2] cN.size (show _ from HR.out) (by intro u hu;simp [Value.cells] at hu;rcases hu with rfl|rfl <;> rfl) fun W1 hp=> ?_)
    |go_values|go_skip|go_guarded|refine wg ?_|go_step|go_upon|go_quiet (fail))
   (try simp only [Exit.inBlock,Exit.then]);refine bodyPost_ret (aT results215 cN rfl hp.at_ rfl) rfl ?_
   exact ⟨rfl,Below.put (below_drewN HB.out _) hp (by omega)⟩
 · subst hn;have HGF:Hid ((gC p ((3:Int)).toNat)=(p.d3,p.e3)):=hU rfl;have hcd:W0.cell? ⟨w.heap.size,20,none⟩=some (.int .i64 p.d3):=aC HP.out 20;by_cases h1:p.d3<1
   · have he:=HNO.out (.inr (.inl h1));unfold mQ;rw [he];have hd1:decide (p.d3<1)=true:=by simpa using h1
     clear HNO HYES;go_in
     repeat' (first
      |(rw [hW0];clear hW0)
      |(refine sN 116 (.agg #[.int .i64 0,.bool false]) 0 #[.int .i64 0,.bool false] cN.size (show _ from HR.out) (by intro u hu;simp [Value.cells] at hu;rcases hu with rfl|rfl <;> rfl) fun W1 hp=> ?_)
      |go_values|go_skip|go_guarded|refine wg ?_|go_step|go_upon|go_quiet (fail))
     (try simp only [Exit.inBlock,Exit.then]);refine bodyPost_ret (aT results215 cN rfl hp.at_ rfl) rfl ?_
     exact ⟨rfl,Below.put (below_drewN HB.out _) hp (by omega)⟩
   by_cases h2:(k.aG.length:Int)<p.d3
   · have he:=HNO.out (.inr (.inr h2));unfold mQ;rw [he];have hd1:decide (p.d3<1)=false:=by simpa using h1
     have hd2:decide ((k.aG.length:Int)<p.d3)=true:=by simpa using h2
     clear HNO HYES;go_in
     repeat' (first
      |(rw [hW0];clear hW0)
      |(refine sN 116 (.agg #[.int .i64 0,.bool false]) 0 #[.int .i64 0,.bool false] cN.size (show _ from HR.out) (by intro u hu;simp [Value.cells] at hu;rcases hu with rfl|rfl <;> rfl) fun W1 hp=> ?_)
      |go_values|go_skip|go_guarded|refine wg ?_|go_step|go_upon|go_quiet (fail))
     (try simp only [Exit.inBlock,Exit.then]);refine bodyPost_ret (aT results215 cN rfl hp.at_ rfl) rfl ?_
     exact ⟨rfl,Below.put (below_drewN HB.out _) hp (by omega)⟩
   have he:=HYES.out (by decide) h1 h2;have hv:mQ k p 3=#[.int .i64 p.d3,.bool p.e3]:=by unfold mQ;rw [if_pos he];rfl
   rw [hv,he];have hd1:decide (p.d3<1)=false:=by simpa using h1
   have hd2:decide ((k.aG.length:Int)<p.d3)=false:=by simpa using h2
   clear HNO HYES;go_in
   repeat' (first
    |(rw [hW0];clear hW0)
    |(refine aE (t:=116) (v:=.agg #[.int .i64 p.d3,.bool p.e3]) rfl rfl rfl (cB cN (show _ from HP.out) (o:=20) rfl rfl) ?_)
    |(refine sN 116 (.agg #[.int .i64 p.d3,.bool p.e3]) 0 #[.int .i64 p.d3,.bool p.e3] cN.size (show _ from HR.out) (by intro u hu;simp [Value.cells] at hu;rcases hu with rfl|rfl <;> rfl) fun W1 hp=> ?_)
    |go_values|go_skip|go_guarded|refine wg ?_|go_step|go_upon|go_quiet (fail))
   (try simp only [Exit.inBlock,Exit.then]);refine bodyPost_ret (aT results215 cN rfl hp.at_ rfl) rfl ?_
   exact ⟨rfl,Below.put (below_drewN HB.out _) hp (by omega)⟩
