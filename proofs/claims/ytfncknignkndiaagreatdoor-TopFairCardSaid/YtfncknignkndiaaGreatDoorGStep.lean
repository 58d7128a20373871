/- kern.Step: one cycle. Conditions: as told. -/
import Derived.Test.YtfncknignkndiaaGreatDoorKwGoes
import Derived.Test.YtfncknignkndiaaGreatDoorKwWakes
import Derived.Test.YtfncknignkndiaaGreatDoorGSe0
set_option linter.unusedVariables false
set_option maxRecDepth 100000
set_option maxHeartbeats 8000000
set_option linter.unusedSimpArgs false
namespace Go.Proofs.YtfncknignkndiaaGreatDoor
open Tryz
open Go.RowKit KR RegT3
namespace Kn
theorem qVp (v:Value) (k:aI) (w:World) (hk:pV w v k) (hr:qJf k) (hT:Tab w) (hg:k.gone=0):
 Calls prog 15 #[v] w (oX (step k) w):=by
 obtain ⟨y0,bs,rfl,hl⟩:=hk;obtain ⟨b,hb2⟩:∃ b,w.heap.size + 1 + 1=b:=⟨_,rfl⟩
 obtain ⟨W0,hW0,K0,R0,E0,L0,hz0,hzK,hzR,HR0⟩:=stS hl hb2;have HTW:=hU (fun W (h:KR.Kept b w W)=> hT.below (Kept.low h (by omega)));clear hT;have HRD:=hU hr;clear hr;go_in;have hgb:(k.gone==0)=true:=by simp [hg]
 have HGN:=hU hg;clear hg
 repeat' (first
  |(rw [hW0,hb2];clear hW0)
  |(refine aE (t:=41) (v:=.agg #[y0.p,y0.t,.int .i64 k.t.left,y0.s,y0.pi,.int .i64 k.hs,y0.h,.int .u64 k.now,y0.im,y0.ou,y0.ins_,y0.bx,.string k.cons,y0.tr,y0.se,.int .i64 k.want,.int .i64 k.gone]) rfl rfl rfl (aD cR HR0.out rfl) ?_)
  |(refine aP (t:=39) (v:=.slice none 0 0) (off:=14) (new:=aJ {y0 with se:=.slice none 0 0} {k with sent:=[]}) rfl rfl rfl rfl zY K0.out (Sl.nil:xQ w _ []).jF (Sl.nil:xQ w _ []).jW (show 14 + 1≤17 by decide) rfl ?_;intro W1 hp
    have L1:Hid (aH W1 {y0 with se:=.slice none 0 0} bs {k with sent:=[]}):=hU ((L0.out.qKm (Sl.nil:xQ _ _ [])).put K0.out cI hp);have E1:=pK hp E0;have K1:Hid (W1.heap[b]? =some (.cells (aJ {y0 with se:=.slice none 0 0} {k with sent:=[]}) 104 (0,0))):=pA hp;have R1:=pT hp K0 R0;clear hp;clear K0 R0 E0 L0)
  |(refine kS 3 (.int .i64 0) 15 {y0 with se:=.slice none 0 0} {k with sent:=[],want:=0} cO K1 E1 (L1.out.pN 0) fun W2 hp L2 E2 K2=> ?_
    have R2:=pT hp K1 R1;clear hp;clear K1 R1 E1 L1;have kG:W2.cell? ⟨b,16,none⟩=some (.int .i64 k.gone):=aC K2.out 16)
  |go_values|go_skip|go_guarded|refine wg ?_|go_step|go_upon)
 clear kG HR0;have hi1:Inv [] {k with sent:=[],want:=0}:=HRD.out.inv.same rfl rfl rfl rfl rfl rfl;have hw1:=hi1.jA;have HW1:=hU hw1;have HI1:=hU hi1;clear hi1 hw1;refine (qWh b {k with sent:=[],want:=0} _ ⟨_,_,K2.out,L2.out⟩ HRD.out.bd.fresh HI1.out).mono ?_;rintro er W3 ⟨hret,⟨y3,bs3,hkk,hll⟩,hke⟩;have R3:=mB hke R2;have K3:=hU hkk;have E3:=mE hke E2;have L3:=hU hll;clear hkk hll hke;clear K2 R2 E2 L2;obtain ⟨er2,rfl⟩:=hret;dsimp only;refine sg ?_;intros;refine (qYz b (jA {k with sent:=[],want:=0}) _ ⟨_,_,K3.out,L3.out⟩ (HTW.out _ E3.out) {k with sent:=[],want:=0} 12 HRD.out.bd.fresh HW1.out.inv HW1.out.told (by decide) (qBn _)).mono ?_;rintro er W4 ⟨hret,⟨y4,bs4,hkk,hll⟩,hke⟩;have R4:=mB hke R3;have K4:=hU hkk;have E4:=mE hke E3;have L4:=hU hll;clear hkk hll hke;clear K3 R3 E3 L3;obtain ⟨er3,rfl⟩:=hret;dsimp only;have hnow:(goes (jA {k with sent:=[],want:=0})).now=k.now:=(HW1.out.told.trans (HW1.out.inv.goes (HW1.out.gone.trans HGN.out) (HW1.out.ne (by rcases HRD.out.life with g|g;exact g.2;exact absurd HGN.out g.1))).told).now
 have hst:step k={(goes (jA {k with sent:=[],want:=0})) with now:=til k.now 1}:=by
  have:step k={(goes (jA {k with sent:=[],want:=0})) with now:=til (goes (jA {k with sent:=[],want:=0})).now 1}:=by rw [step];dsimp only;rw [if_pos HGN.out]
  rw [this,hnow]
 have HST:=hU hst;clear hst;have kN:W4.cell? ⟨b,7,none⟩=some (.int .u64 k.now):=(aC K4.out 7).trans (congrArg (fun z=> some (Value.int .u64 z)) hnow);refine sg ?_;intros;refine (qJg k.now 1 _ HRD.out.bd.now0 HRD.out.bd.now1 (by decide) (by decide)).mono ?_;rintro er W5 ⟨rfl,hb⟩;obtain ⟨K5,R5,E5,L5⟩:=n4 hb K4 R4 E4 L4;clear K4 R4 E4 L4;clear hb kN;dsimp only
 repeat' (first
  |(refine kS 35 (.int .u64 (til k.now 1)) 7 y4 {(goes (jA {k with sent:=[],want:=0})) with now:=til k.now 1} qIf K5 E5 (L5.out.qQe (til k.now 1)) fun W6 hp L6 E6 K6=> ?_
    have R6:=pT hp K5 R5;clear hp;clear K5 R5 E5 L5)
  |(refine aE (t:=41) (v:=.agg (aJ y4 {(goes (jA {k with sent:=[],want:=0})) with now:=til k.now 1})) rfl rfl rfl (aD cR K6.out rfl) ?_)
  |(refine sN 41 (.agg (aJ y4 {(goes (jA {k with sent:=[],want:=0})) with now:=til k.now 1})) 0 (aJ y4 {(goes (jA {k with sent:=[],want:=0})) with now:=til k.now 1}) cR.size R6.out (nS L6.out) fun W7 hp=> ?_
    have E7:=pE hp E6;have L7:=pL hp R6 L6;have R7:=pA hp;have K7:=pT hp R6 K6;clear hp;clear K6 R6 E6 L6)
  |go_values|go_skip|go_guarded|refine wg ?_|go_step|go_upon)
 (try simp only [Exit.inBlock,Exit.then]);refine bodyPost_ret (cJ results15 cR rfl R7.out rfl) rfl ?_
 rw [HST.out];exact ⟨_,rfl,⟨_,_,rfl,L7.out⟩,Kept.low E7.out (by omega)⟩
theorem qVq (v:Value) (k:aI) (w:World) (hk:pV w v k) (hr:qJf k) (hT:Tab w) (hg:k.gone ≠ 0):
 Calls prog 15 #[v] w (oX (step k) w):=by
 obtain ⟨y0,bs,rfl,hl⟩:=hk;obtain ⟨b,hb2⟩:∃ b,w.heap.size + 1 + 1=b:=⟨_,rfl⟩
 obtain ⟨W0,hW0,K0,R0,E0,L0,hz0,hzK,hzR,HR0⟩:=stS hl hb2;have HTW:=hU (fun W (h:KR.Kept b w W)=> hT.below (Kept.low h (by omega)));clear hT;have HRD:=hU hr;clear hr;go_in;have hgb:(k.gone==0)=false:=by simp [hg]
 have HGN:=hU hg;clear hg
 repeat' (first
  |(rw [hW0,hb2];clear hW0)
  |(refine aE (t:=41) (v:=.agg #[y0.p,y0.t,.int .i64 k.t.left,y0.s,y0.pi,.int .i64 k.hs,y0.h,.int .u64 k.now,y0.im,y0.ou,y0.ins_,y0.bx,.string k.cons,y0.tr,y0.se,.int .i64 k.want,.int .i64 k.gone]) rfl rfl rfl (aD cR HR0.out rfl) ?_)
  |(refine aP (t:=39) (v:=.slice none 0 0) (off:=14) (new:=aJ {y0 with se:=.slice none 0 0} {k with sent:=[]}) rfl rfl rfl rfl zY K0.out (Sl.nil:xQ w _ []).jF (Sl.nil:xQ w _ []).jW (show 14 + 1≤17 by decide) rfl ?_;intro W1 hp
    have L1:Hid (aH W1 {y0 with se:=.slice none 0 0} bs {k with sent:=[]}):=hU ((L0.out.qKm (Sl.nil:xQ _ _ [])).put K0.out cI hp);have E1:=pK hp E0;have K1:Hid (W1.heap[b]? =some (.cells (aJ {y0 with se:=.slice none 0 0} {k with sent:=[]}) 104 (0,0))):=pA hp;have R1:=pT hp K0 R0;clear hp;clear K0 R0 E0 L0)
  |(refine kS 3 (.int .i64 0) 15 {y0 with se:=.slice none 0 0} {k with sent:=[],want:=0} cO K1 E1 (L1.out.pN 0) fun W2 hp L2 E2 K2=> ?_
    have R2:=pT hp K1 R1;clear hp;clear K1 R1 E1 L1;have kG:W2.cell? ⟨b,16,none⟩=some (.int .i64 k.gone):=aC K2.out 16;have kN:W2.cell? ⟨b,7,none⟩=some (.int .u64 k.now):=aC K2.out 7)
  |go_values|go_skip|go_guarded|refine wg ?_|go_step|go_upon)
 clear kG HR0;have hnow:k.now=k.now:=rfl;have hst:step k={{k with sent:=[],want:=0} with now:=til k.now 1}:=by rw [step];dsimp only;rw [if_neg HGN.out]
 have HST:=hU hst;clear hst;refine (qJg k.now 1 _ HRD.out.bd.now0 HRD.out.bd.now1 (by decide) (by decide)).mono ?_;rintro er W3 ⟨rfl,hb⟩;obtain ⟨K3,R3,E3,L3⟩:=n4 hb K2 R2 E2 L2;clear K2 R2 E2 L2;clear hb kN;dsimp only
 repeat' (first
  |(refine kS 35 (.int .u64 (til k.now 1)) 7 {y0 with se:=.slice none 0 0} {{k with sent:=[],want:=0} with now:=til k.now 1} qIf K3 E3 (L3.out.qQe (til k.now 1)) fun W4 hp L4 E4 K4=> ?_
    have R4:=pT hp K3 R3;clear hp;clear K3 R3 E3 L3)
  |(refine aE (t:=41) (v:=.agg (aJ {y0 with se:=.slice none 0 0} {{k with sent:=[],want:=0} with now:=til k.now 1})) rfl rfl rfl (aD cR K4.out rfl) ?_)
  |(refine sN 41 (.agg (aJ {y0 with se:=.slice none 0 0} {{k with sent:=[],want:=0} with now:=til k.now 1})) 0 (aJ {y0 with se:=.slice none 0 0} {{k with sent:=[],want:=0} with now:=til k.now 1}) cR.size R4.out (nS L4.out) fun W5 hp=> ?_
    have E5:=pE hp E4;have L5:=pL hp R4 L4;have R5:=pA hp;have K5:=pT hp R4 K4;clear hp;clear K4 R4 E4 L4)
  |go_values|go_skip|go_guarded|refine wg ?_|go_step|go_upon)
 (try simp only [Exit.inBlock,Exit.then]);refine bodyPost_ret (cJ results15 cR rfl R5.out rfl) rfl ?_
 rw [HST.out];exact ⟨_,rfl,⟨_,_,rfl,L5.out⟩,Kept.low E5.out (by omega)⟩
theorem qYw (v:Value) (k:aI) (w:World) (hk:pV w v k) (hr:qJf k) (hT:Tab w):Calls prog 15 #[v] w (oX (step k) w):=by
 by_cases hg:k.gone=0
 · exact qVp v k w hk hr hT hg
 · exact qVq v k w hk hr hT hg
theorem qVo (x:Part) (v:Value) (s:dU) (n:Nat) (w:World) (hv:xP w v s) (hg:iV n s) (hn:n≤50000) (hx:oZ x) (hT:Tab w):
 Calls prog 51 #[.agg x.cells,v] w (qDm (cP x s) w):=by
 obtain ⟨y,bs,rfl,hl⟩:=hv;obtain ⟨q0,q1,q2⟩:=gG w w.heap.size (.cells x.cells 76) (.cells (aY y s) 67) (.cells zKe 67) rfl;have hb0:Below w.heap.size w (((w.alloc (.cells x.cells 76)).alloc (.cells (aY y s) 67)).alloc (.cells zKe 67)):=bel;obtain ⟨W0,hW0⟩:=exW (((w.alloc (.cells x.cells 76)).alloc (.cells (aY y s) 67)).alloc (.cells zKe 67));rw [hW0] at q0 q1 q2 hb0;have X0:=hU q0;have A0:=hU q1;have R0:=hU q2;have B0:=hU hb0;have L0:=hU (hl.below hb0);have e1:=qUb (.agg (aY y s)) s W0 ⟨y,bs,rfl,L0.out⟩;have HGO:=hU e1;have HT:=hU (fun W (h:Below w.heap.size w W)=> hT.below h);have HG:=hU hg;have HX:=hU hx;clear q0 q1 q2 hb0 hl e1 hT hg hx;go_in
 repeat' (first
  |(rw [hW0];clear hW0)
  |(refine aE (t:=67) (v:=.agg (aY y s)) rfl rfl rfl (aD dN A0.out rfl) ?_)
  |go_values|go_skip|go_guarded|refine wg ?_|go_step|go_upon)
 refine HGO.out.mono ?_;rintro er W1 ⟨rfl,hb⟩;have X1:=nB hb X0;have A1:=nB hb A0;have R1:=nB hb R0;have L1:=nL hb L0;have B1:=hU (B0.out.trans (hb.mono B0.out.size));clear hb X0 A0 R0 L0 B0 HGO;dsimp only;by_cases h1:s.st=1
 · have b1:(s.st==1)=true:=by simp [h1]
   have HS:=hU (show cP x s=jC x (oS s) from if_pos h1);have H1:=hU h1;clear h1;obtain ⟨b,hab,hbb⟩:∃ b,W1.heap.size=b∧w.heap.size + 1 + 1<b:=⟨_,rfl,hlt R1.out⟩
   obtain ⟨W2,hWn,hba,HK_l⟩:=nb1 (.cells #[y.p,y.t,.int .i64 s.k.t.left,y.s,y.pi,.int .i64 s.k.hs,y.h,.int .u64 s.k.now,y.im,y.ou,y.ins_,y.bx,.string s.k.cons,y.tr,y.se,.int .i64 s.k.want,.int .i64 s.k.gone,.int .i64 s.st,.int .i64 s.boots,.int .i64 x.mem,.int .i64 x.a1,.int .i64 x.a2,.int .i64 x.a3] 186) hab;have K2:Hid (W2.heap[b]? =some (.cells (cK y s x) 186 (0,0))):=HK_l;clear HK_l;have R2:=nB hba R1;have L2:=nL hba L1;have B2:=hU (B1.out.trans (hba.mono B1.out.size));have E2:Hid (KR.Kept b w W2):=hU (Kept.of B2.out);clear hba;have e2:=qYw (.agg (aJ y s.k)) s.k W2 ⟨y,bs,rfl,L2.out⟩ (HG.out.k.ready (by omega)) (HT.out _ B2.out);obtain ⟨k2,hk2⟩:∃ k2,step s.k=k2:=⟨_,rfl⟩
   have HGK:Hid (Good (n + 1) k2):=hU (by rw [← hk2];exact HG.out.k.step);have HOU:Hid (k2.outs.length≤100):=hU (by rw [← hk2,qDf HG.out.k];exact HG.out.ou);rw [hk2] at e2;have HST:=hU e2;have HSG:Hid (oS s=⟨k2,if k2.want=1 then 2 else if k2.want=2 then 3 else s.st,s.boots⟩):=hU (by unfold oS;rw [hk2]);clear e2 hk2
   repeat' (first
    |(refine aE (t:=67) (v:=.agg #[y.p,y.t,.int .i64 s.k.t.left,y.s,y.pi,.int .i64 s.k.hs,y.h,.int .u64 s.k.now,y.im,y.ou,y.ins_,y.bx,.string s.k.cons,y.tr,y.se,.int .i64 s.k.want,.int .i64 s.k.gone,.int .i64 s.st,.int .i64 s.boots]) rfl rfl rfl (aD dN A1.out rfl) ?_)
    |(refine aE (t:=76) (v:=.agg #[.int .i64 x.mem,.int .i64 x.a1,.int .i64 x.a2,.int .i64 x.a3]) rfl rfl rfl (aD nO X1.out rfl) ?_)
    |(rw [hWn,hab];clear hWn hab)
    |(refine aE (t:=41) (v:=.agg (aJ y s.k)) rfl rfl rfl (cB cR K2.out (zI _ _ _) rfl) ?_)
    |go_values|go_skip|go_guarded|refine wg ?_|go_step|go_upon)
   clear X1 A1 R1 L1 B1;refine HST.out.mono ?_;rintro er W3 ⟨v3,rfl,⟨y3,bs3,rfl,hl3⟩,hb⟩;have K3:=nB hb K2;have R3:=nB hb R2;have E3:=nE hb E2;have L3:=hU hl3;clear hb hl3 K2 R2 E2 L2 B2 HST;have HON:=hU (nS L3.out);dsimp only;rcases (by omega:k2.want=1∨k2.want=2∨(k2.want ≠ 1∧k2.want ≠ 2)) with g|g|g
   case' inl=>
    have c1:(k2.want==1)=true:=by simp [g]
    have hs2:oS s=⟨k2,2,s.boots⟩:=by rw [HSG.out];rw [if_pos g]
    clear g
   case' inr.inl=>
    have c1:(k2.want==1)=false:=by simp [g]
    have c2:(k2.want==2)=true:=by simp [g]
    have hs2:oS s=⟨k2,3,s.boots⟩:=by rw [HSG.out];rw [if_neg (by omega),if_pos g]
    clear g
   case' inr.inr=>
    have c1:(k2.want==1)=false:=by simp [g.1]
    have c2:(k2.want==2)=false:=by simp [g.2]
    have hs2:oS s=⟨k2,s.st,s.boots⟩:=by rw [HSG.out];rw [if_neg g.1,if_neg g.2]
    clear g
   repeat' (first
    |(refine sN 41 (.agg (aJ y3 k2)) 0 (cK y3 ⟨k2,s.st,s.boots⟩ x) cR.size K3.out HON.out fun W4 hp=> ?_
      have K4:Hid (W4.heap[b]? =some (.cells (cK y3 ⟨k2,s.st,s.boots⟩ x) 186 (0,0))):=pA hp;have R4:=pO hp R3;have E4:=pK hp E3;have L4:=pL hp K3 L3 eW;have f15:W4.cell? ⟨b,15,none⟩=some (.int .i64 k2.want):=aC K4.out 15;clear hp K3 R3 E3 L3)
    |(refine aP (t:=3) (v:=.int .i64 2) (off:=17) (new:=cK y3 ⟨k2,2,s.boots⟩ x) rfl rfl rfl rfl cO K4.out rfl rfl (show 17 + 1≤23 by decide) rfl ?_;intro W5 hp
      have K5:Hid (W5.heap[b]? =some (.cells (cK y3 (oS s) x) 186 (0,0))):=by rw [hs2];exact pA hp
      have R5:=pO hp R4;have E5:=pK hp E4;have L5:=pL hp K4 L4 eW;clear hp K4 R4 E4 L4)
    |(refine aP (t:=3) (v:=.int .i64 3) (off:=17) (new:=cK y3 ⟨k2,3,s.boots⟩ x) rfl rfl rfl rfl cO K4.out rfl rfl (show 17 + 1≤23 by decide) rfl ?_;intro W5 hp
      have K5:Hid (W5.heap[b]? =some (.cells (cK y3 (oS s) x) 186 (0,0))):=by rw [hs2];exact pA hp
      have R5:=pO hp R4;have E5:=pK hp E4;have L5:=pL hp K4 L4 eW;clear hp K4 R4 E4 L4)
    |go_values|go_skip|go_guarded|refine wg ?_|go_step|go_upon)
   all_goals
    (first|(obtain ⟨W5,rfl⟩:∃ W5,W5=W4:=⟨_,rfl⟩
            have K5:Hid (W5.heap[b]? =some (.cells (cK y3 (oS s) x) 186 (0,0))):=by rw [hs2];exact K4
            have R5:=R4;have E5:=E4;have L5:=L4)|skip)
    clear HON HT;have e5:=qOh b x (oS s) W5 y3 bs3 K5.out (by rw [HSG.out];exact L5.out) HX.out.m0 HX.out.m1 (by rw [HSG.out];show k2.images.length≤_;have:=HGK.out.im;omega) (by rw [HSG.out];show k2.outs.length≤_;have:=HOU.out;omega) (by rw [HSG.out];show k2.ins_.length≤_;have:=HGK.out.il;omega) (by rw [HSG.out];show 0≤s.boots;have:=HG.out.b1;omega) (by rw [HSG.out];show s.boots≤_;have:=HG.out.b2;omega);rw [← HS.out] at e5;refine e5.mono ?_;rintro er W6 ⟨⟨vr,rfl⟩,⟨y6,bs6,hk6,hl6⟩,hke⟩;have R6:=mB hke R5;have E6:=mE hke E5;have K6:=hU hk6;have L6:=hU hl6;have B6:=hU (Kept.low E6.out (by omega));clear hke hk6 hl6 R5 E5 K5 L5 e5;dsimp only
    repeat' (first
     |(refine aE (t:=67) (v:=.agg (aY y6 (cP x s))) rfl rfl rfl (cB dN K6.out (zJ _ _ _) rfl) ?_)
     |(refine sN 67 (.agg (aY y6 (cP x s))) 0 (aY y6 (cP x s)) dN.size R6.out (sP L6.out) fun W7 hp=> ?_
       have R7:=pA hp;have L7:=pL hp R6 L6 pH;have B7:=hU (Below.put B6.out hp (by omega));clear hp R6 L6 B6)
     |go_values|go_skip|go_guarded|refine wg ?_|go_step|go_upon)
    (try simp only [Exit.inBlock,Exit.then]);refine bodyPost_ret (cJ results51 dN rfl R7.out rfl) rfl ?_
    exact ⟨_,rfl,⟨_,_,rfl,L7.out⟩,B7.out⟩
 · have b1:(s.st==1)=false:=by simp [h1]
   have HS:=hU (show cP x s=s from if_neg h1);clear h1
   repeat' (first
    |(refine aE (t:=67) (v:=.agg (aY y s)) rfl rfl rfl (aD dN A1.out rfl) ?_;clear A1)
    |(refine sN 67 (.agg (aY y s)) 0 (aY y s) dN.size R1.out (sP L1.out) fun W2 hp=> ?_
      have R2:=pA hp;have L2:=pL hp R1 L1 pH;have B2:=hU (Below.put B1.out hp (by omega));clear hp R1 L1 B1)
    |go_values|go_skip|go_guarded|refine wg ?_|go_step|go_upon)
   (try simp only [Exit.inBlock,Exit.then]);refine bodyPost_ret (cJ results51 dN rfl R2.out rfl) rfl ?_
   rw [HS.out];exact ⟨_,rfl,⟨_,_,rfl,L2.out⟩,B2.out⟩
