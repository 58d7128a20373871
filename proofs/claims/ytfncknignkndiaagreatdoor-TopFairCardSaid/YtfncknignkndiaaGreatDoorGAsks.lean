/- work.asks: new processes and new images, and all other calls. Conditions: as told. -/
import Derived.Test.YtfncknignkndiaaGreatDoorKwAsks
import Derived.Test.YtfncknignkndiaaGreatDoorGInw
set_option linter.unusedVariables false
set_option maxRecDepth 100000
set_option maxHeartbeats 8000000
set_option linter.unusedSimpArgs false
namespace Go.Proofs.YtfncknignkndiaaGreatDoor
open Tryz
open Go.RowKit KR RegT3
namespace Kn
theorem qVv (b:Nat) (k:aI) (p:Proc) (x:Call) (w:World) (hk:cH w b k) (hf:Fit k) (hx:nD x) (hxn:x.n=3):
 Calls prog 86 #[.pointer (some ⟨b,0,none⟩),.agg p.cells,.agg x.cells] w (eN b (.bool (dF k p x)) (asks k p x) w):=by
 have HB1:Hid (dF k p x=true):=hU (by rw [dF,hxn];rfl);have HA:Hid (asks k p x=answer (fresh k (lK p)) p x (lD k) (fN k)):=hU (by rw [asks,hxn];rfl);obtain ⟨y,bs,hk0,hl⟩:=hk;have hbl:=hlt hk0;have hn:k.p.length≤1000000:=Nat.le_trans hf.n (by omega);have HF:=hU hf;have HX:=hU hx;clear hf hx;have hxc:x.cells[0]? =some (.int .u32 3):=by rw [← hxn];rfl
 clear hxn;obtain ⟨W0,hW0,K0,P0,X0,E0,L0,hz0,hzK,hzP,hzX⟩:=st2 p.cells 121 x.cells 119 hk0 hl;have kXn:W0.cell? ⟨w.heap.size + 1,0,none⟩=some (.int .u32 3):=(aC X0.out 0).trans hxc;have kXa:W0.cell? ⟨w.heap.size + 1,1,none⟩=some (.int .u32 x.a):=aC X0.out 1;have kP0:W0.cell? ⟨w.heap.size,0,none⟩=some (.int .i64 p.pid):=aC P0.out 0;go_in;have HPo:=P0;obtain ⟨abQ,hab,hab1Q⟩:=nb0 E0;have habKQ:=nlt K0 hab;have habPQ:=nlt P0 hab;have habXQ:=nlt X0 hab;have hoffQ:=L0.out.p.dJ (Nat.le_of_eq hab);obtain ⟨W1,hWn,hba,Q1⟩:=nb1 (.cells zPr 121) hab;obtain ⟨K1,P1,X1,E1,L1⟩:=n5 hba K0 P0 X0 E0 L0;clear K0 P0 X0 E0 L0;clear hba
 repeat' (first
  |(rw [hWn,hab];clear hWn hab)
  |(rw [hW0];clear hW0)
  |(refine aE (t:=121) (v:=.agg p.cells) rfl rfl rfl (aD aL HPo.out rfl) ?_)
  |(refine sN 121 (.agg p.cells) 0 p.cells aL.size Q1.out (dK p) fun W2 hp=> ?_
    have E2:=pE hp E1;have L2:Hid (aH W2 y bs k):=hU (L1.out.dG (L1.out.p.dY hoffQ hp) Q1.out hp);have Q2:=pA hp;have K2:=pT hp Q1 K1;have P2:=pO hp P1;have X2:=pT hp Q1 X1;clear hp;clear K1 P1 X1 Q1 E1 L1;have kPq:W2.cell? ⟨w.heap.size,0,none⟩=some (.int .i64 p.pid):=aC P2.out 0)
  |(refine aP (t:=3) (v:=.int .i64 p.pid) (off:=1) (new:=({p with par:=p.pid}:Proc).cells) rfl rfl rfl rfl cO Q2.out rfl rfl (show 1 + 1≤26 by decide) rfl ?_;intro W3 hp
    have E3:=pE hp E2;have L3:Hid (aH W3 y bs k):=hU (L2.out.dG (L2.out.p.dY hoffQ hp) Q2.out hp);have Q3:=pA hp;have K3:=pT hp Q2 K2;have P3:=pO hp P2;have X3:=pT hp Q2 X2;clear hp;clear K2 P2 X2 Q2 E2 L2)
  |(refine aP (t:=109) (v:=.int .u32 0) (off:=3) (new:=(lK p).cells) rfl rfl rfl rfl qPq Q3.out rfl rfl (show 3 + 1≤26 by decide) rfl ?_;intro W4 hp
    have E4:=pE hp E3;have L4:Hid (aH W4 y bs k):=hU (L3.out.dG (L3.out.p.dY hoffQ hp) Q3.out hp);have Q4:=pA hp;have K4:=pT hp Q3 K3;have P4:=pO hp P3;have X4:=pT hp Q3 X3;clear hp;clear K3 P3 X3 Q3 E3 L3)
  |(refine aE (t:=121) (v:=.agg (lK p).cells) rfl rfl rfl (aD aL Q4.out rfl) ?_)
  |go_values|go_skip|go_guarded|refine wg ?_|go_step|go_upon)
 clear HPo;try clear hWn hab
 refine (qHh b k (lK p) _ ⟨_,_,K4.out,L4.out⟩ hn HF.out.t HF.out.pl HF.out.pb HF.out.hl HF.out.hs0 HF.out.hs1 HF.out.pid).mono ?_;rintro er W5 ⟨hret,⟨y5,bs5,hkk,hll⟩,hke⟩;have P5:=mB hke P4;have X5:=mB hke X4;have Q5:=mB hke Q4;have K5:=hU hkk;have E5:=mE hke E4;have L5:=hU hll;clear hkk hll hke;clear K4 P4 X4 Q4 E4 L4;subst hret;dsimp only
 repeat' (first
  |(refine aE (t:=121) (v:=.agg p.cells) rfl rfl rfl (aD aL P5.out rfl) ?_)
  |(refine aE (t:=119) (v:=.agg x.cells) rfl rfl rfl (aD dD X5.out rfl) ?_)
  |go_values|go_skip|go_guarded|refine wg ?_|go_step|go_upon)
 refine (fL b (fresh k (lK p)) p x (lD k) (fN k) _ ⟨_,_,K5.out,L5.out⟩ (mV k).1 (mV k).2 (Nat.le_trans (uC k (lK p)) (by have:=HF.out.n;omega)) (by rw [xX];exact HF.out.tr)).mono ?_;rintro er W6 ⟨hret,⟨y6,bs6,hkk,hll⟩,hke⟩;have P6:=mB hke P5;have X6:=mB hke X5;have Q6:=mB hke Q5;have K6:=hU hkk;have E6:=mE hke E5;have L6:=hU hll;clear hkk hll hke;clear K5 P5 X5 Q5 E5 L5;obtain ⟨er2,rfl⟩:=hret;dsimp only;refine sg ?_;intros;go_ret;rw [HB1.out,HA.out];exact ⟨rfl,⟨_,_,K6.out,L6.out⟩,E6.out⟩
theorem qRi (b:Nat) (k:aI) (p:Proc) (x:Call) (w:World) (hk:cH w b k) (hf:Fit k) (hx:nD x) (hxn:x.n=2) (hi:dA k x.a=0):
 Calls prog 86 #[.pointer (some ⟨b,0,none⟩),.agg p.cells,.agg x.cells] w (eN b (.bool (dF k p x)) (asks k p x) w):=by
 have HB1:Hid (dF k p x=true):=hU (by rw [dF,hxn];rfl);have HA:Hid (asks k p x=answer (fresh k (lE p (eG k x.a))) p x (lD k) (fN k)):=hU (by rw [asks,hxn];exact if_pos hi);obtain ⟨y,bs,hk0,hl⟩:=hk;have hbl:=hlt hk0;have hn:k.p.length≤1000000:=Nat.le_trans hf.n (by omega);have HF:=hU hf;have HX:=hU hx;clear hf hx;have hxc:x.cells[0]? =some (.int .u32 2):=by rw [← hxn];rfl
 clear hxn;obtain ⟨W0,hW0,K0,P0,X0,E0,L0,hz0,hzK,hzP,hzX⟩:=st2 p.cells 121 x.cells 119 hk0 hl;have kXn:W0.cell? ⟨w.heap.size + 1,0,none⟩=some (.int .u32 2):=(aC X0.out 0).trans hxc;have kXa:W0.cell? ⟨w.heap.size + 1,1,none⟩=some (.int .u32 x.a):=aC X0.out 1;have kP0:W0.cell? ⟨w.heap.size,0,none⟩=some (.int .i64 p.pid):=aC P0.out 0;go_in
 repeat' (first
  |(rw [hW0];clear hW0)
  |go_values|go_skip|go_guarded|refine wg ?_|go_step|go_upon)
 refine (qAd b k x.a _ ⟨_,_,K0.out,L0.out⟩ HX.out.a0 HX.out.a1 (Nat.le_trans HF.out.im (by decide))).mono ?_;rintro er W1 ⟨rfl,hb⟩;obtain ⟨K1,P1,X1,E1,L1⟩:=n5 hb K0 P0 X0 E0 L0;clear K0 P0 X0 E0 L0;clear hb;dsimp only;rw [hi];have kPq:W1.cell? ⟨w.heap.size,0,none⟩=some (.int .i64 p.pid):=aC P1.out 0;refine sg ?_;intros;refine (qHh b k (lE p (eG k x.a)) _ ⟨_,_,K1.out,L1.out⟩ hn HF.out.t HF.out.pl HF.out.pb HF.out.hl HF.out.hs0 HF.out.hs1 HF.out.pid).mono ?_;rintro er W2 ⟨hret,⟨y2,bs2,hkk,hll⟩,hke⟩;have P2:=mB hke P1;have X2:=mB hke X1;have K2:=hU hkk;have E2:=mE hke E1;have L2:=hU hll;clear hkk hll hke;clear K1 P1 X1 E1 L1;subst hret;dsimp only
 repeat' (first
  |(refine aE (t:=121) (v:=.agg p.cells) rfl rfl rfl (aD aL P2.out rfl) ?_)
  |(refine aE (t:=119) (v:=.agg x.cells) rfl rfl rfl (aD dD X2.out rfl) ?_)
  |go_values|go_skip|go_guarded|refine wg ?_|go_step|go_upon)
 refine (fL b (fresh k (lE p (eG k x.a))) p x (lD k) (fN k) _ ⟨_,_,K2.out,L2.out⟩ (mV k).1 (mV k).2 (Nat.le_trans (uC k (lE p (eG k x.a))) (by have:=HF.out.n;omega)) (by rw [xX];exact HF.out.tr)).mono ?_;rintro er W3 ⟨hret,⟨y3,bs3,hkk,hll⟩,hke⟩;have P3:=mB hke P2;have X3:=mB hke X2;have K3:=hU hkk;have E3:=mE hke E2;have L3:=hU hll;clear hkk hll hke;clear K2 P2 X2 E2 L2;obtain ⟨er2,rfl⟩:=hret;dsimp only;refine sg ?_;intros;go_ret;rw [HB1.out,HA.out];exact ⟨rfl,⟨_,_,K3.out,L3.out⟩,E3.out⟩
theorem qRj (b:Nat) (k:aI) (p:Proc) (x:Call) (w:World) (hk:cH w b k) (hf:Fit k) (hx:nD x) (hxn:x.n=2) (hi:dA k x.a ≠ 0):
 Calls prog 86 #[.pointer (some ⟨b,0,none⟩),.agg p.cells,.agg x.cells] w (eN b (.bool (dF k p x)) (asks k p x) w):=by
 have HB1:Hid (dF k p x=true):=hU (by rw [dF,hxn];rfl);have HA:Hid (asks k p x=answer k p x 0 (dA k x.a)):=hU (by rw [asks,hxn];exact if_neg hi);obtain ⟨y,bs,hk0,hl⟩:=hk;have hbl:=hlt hk0;have hn:k.p.length≤1000000:=Nat.le_trans hf.n (by omega);have HF:=hU hf;have HX:=hU hx;clear hf hx;have hxc:x.cells[0]? =some (.int .u32 2):=by rw [← hxn];rfl
 clear hxn;obtain ⟨W0,hW0,K0,P0,X0,E0,L0,hz0,hzK,hzP,hzX⟩:=st2 p.cells 121 x.cells 119 hk0 hl;have kXn:W0.cell? ⟨w.heap.size + 1,0,none⟩=some (.int .u32 2):=(aC X0.out 0).trans hxc;have kXa:W0.cell? ⟨w.heap.size + 1,1,none⟩=some (.int .u32 x.a):=aC X0.out 1;have kP0:W0.cell? ⟨w.heap.size,0,none⟩=some (.int .i64 p.pid):=aC P0.out 0;go_in
 repeat' (first
  |(rw [hW0];clear hW0)
  |go_values|go_skip|go_guarded|refine wg ?_|go_step|go_upon)
 refine (qAd b k x.a _ ⟨_,_,K0.out,L0.out⟩ HX.out.a0 HX.out.a1 (Nat.le_trans HF.out.im (by decide))).mono ?_;rintro er W1 ⟨rfl,hb⟩;obtain ⟨K1,P1,X1,E1,L1⟩:=n5 hb K0 P0 X0 E0 L0;clear K0 P0 X0 E0 L0;clear hb;dsimp only;have hib:(dA k x.a==0)=false:=by simp [hi]
 repeat' (first
  |(refine aE (t:=121) (v:=.agg p.cells) rfl rfl rfl (aD aL P1.out rfl) ?_)
  |(refine aE (t:=119) (v:=.agg x.cells) rfl rfl rfl (aD dD X1.out rfl) ?_)
  |go_values|go_skip|go_guarded|refine wg ?_|go_step|go_upon)
 refine (fL b k p x 0 (dA k x.a) _ ⟨_,_,K1.out,L1.out⟩ (mX k x.a).1 (mX k x.a).2 hn HF.out.tr).mono ?_;rintro er W2 ⟨hret,⟨y2,bs2,hkk,hll⟩,hke⟩;have P2:=mB hke P1;have X2:=mB hke X1;have K2:=hU hkk;have E2:=mE hke E1;have L2:=hU hll;clear hkk hll hke;clear K1 P1 X1 E1 L1;obtain ⟨er2,rfl⟩:=hret;dsimp only;refine sg ?_;intros;go_ret;rw [HB1.out,HA.out];exact ⟨rfl,⟨_,_,K2.out,L2.out⟩,E2.out⟩
theorem qOb (b:Nat) (k:aI) (p:Proc) (x:Call) (w:World) (hk:cH w b k) (hf:Fit k) (hx:nD x) (hxn:x.n=17) (hi:dA k x.a=0):
 Calls prog 86 #[.pointer (some ⟨b,0,none⟩),.agg p.cells,.agg x.cells] w (eN b (.bool (dF k p x)) (asks k p x) w):=by
 have HB1:Hid (dF k p x=true):=hU (by rw [dF,hxn];rfl);have HA:Hid (asks k p x=answer k (qAo p (eG k x.a)) x 0 0):=hU (by rw [asks,hxn];show answer k (if dA k x.a=0 then _ else p) x 0 (dA k x.a)=_;rw [if_pos hi,hi]);obtain ⟨y,bs,hk0,hl⟩:=hk;have hbl:=hlt hk0;have hn:k.p.length≤1000000:=Nat.le_trans hf.n (by omega);have HF:=hU hf;have HX:=hU hx;clear hf hx;have hxc:x.cells[0]? =some (.int .u32 17):=by rw [← hxn];rfl
 clear hxn;obtain ⟨W0,hW0,K0,P0,X0,E0,L0,hz0,hzK,hzP,hzX⟩:=st2 p.cells 121 x.cells 119 hk0 hl;have kXn:W0.cell? ⟨w.heap.size + 1,0,none⟩=some (.int .u32 17):=(aC X0.out 0).trans hxc;have kXa:W0.cell? ⟨w.heap.size + 1,1,none⟩=some (.int .u32 x.a):=aC X0.out 1;have kP0:W0.cell? ⟨w.heap.size,0,none⟩=some (.int .i64 p.pid):=aC P0.out 0;go_in
 repeat' (first
  |(rw [hW0];clear hW0)
  |go_values|go_skip|go_guarded|refine wg ?_|go_step|go_upon)
 refine (qAd b k x.a _ ⟨_,_,K0.out,L0.out⟩ HX.out.a0 HX.out.a1 (Nat.le_trans HF.out.im (by decide))).mono ?_;rintro er W1 ⟨rfl,hb⟩;obtain ⟨K1,P1,X1,E1,L1⟩:=n5 hb K0 P0 X0 E0 L0;clear K0 P0 X0 E0 L0;clear hb;dsimp only;rw [hi]
 repeat' (first
  |(refine aP (t:=9) (v:=.string (eG k x.a)) (off:=12) (new:=({p with mem:=eG k x.a}:Proc).cells) rfl rfl rfl rfl pI P1.out rfl rfl (show 12 + 1≤26 by decide) rfl ?_;intro W2 hp
    have E2:=pE hp E1;have L2:Hid (aH W2 y bs k):=hU (L1.out.dG (L1.out.p.dY (hl.p.dJ (Nat.le_refl _)) hp) P1.out hp);have P2:=pA hp;have K2:=pT hp P1 K1;have X2:=pT hp P1 X1;clear hp;clear K1 P1 X1 E1 L1)
  |(refine sN 114 (.agg (eX 0 0 0 0 0 0 0 0 0)) 3 ((qAo p (eG k x.a)).cells) gT.size P2.out (by intro u hu;simp [Value.cells,eX] at hu;subst hu;rfl) fun W3 hp=> ?_
    have E3:=pE hp E2;have L3:Hid (aH W3 y bs k):=hU (L2.out.dG (L2.out.p.dY (hl.p.dJ (Nat.le_refl _)) hp) P2.out hp);have P3:=pA hp;have K3:=pT hp P2 K2;have X3:=pT hp P2 X2;clear hp;clear K2 P2 X2 E2 L2)
  |(refine aE (t:=121) (v:=.agg (qAo p (eG k x.a)).cells) rfl rfl rfl (aD aL P3.out rfl) ?_)
  |(refine aE (t:=119) (v:=.agg x.cells) rfl rfl rfl (aD dD X3.out rfl) ?_)
  |go_values|go_skip|go_guarded|refine wg ?_|go_step|go_upon)
 refine (fL b k (qAo p (eG k x.a)) x 0 0 _ ⟨_,_,K3.out,L3.out⟩ (by decide) (by decide) hn HF.out.tr).mono ?_;rintro er W4 ⟨hret,⟨y4,bs4,hkk,hll⟩,hke⟩;have P4:=mB hke P3;have X4:=mB hke X3;have K4:=hU hkk;have E4:=mE hke E3;have L4:=hU hll;clear hkk hll hke;clear K3 P3 X3 E3 L3;obtain ⟨er2,rfl⟩:=hret;dsimp only;refine sg ?_;intros;go_ret;rw [HB1.out,HA.out];exact ⟨rfl,⟨_,_,K4.out,L4.out⟩,E4.out⟩
theorem qOc (b:Nat) (k:aI) (p:Proc) (x:Call) (w:World) (hk:cH w b k) (hf:Fit k) (hx:nD x) (hxn:x.n=17) (hi:dA k x.a ≠ 0):
 Calls prog 86 #[.pointer (some ⟨b,0,none⟩),.agg p.cells,.agg x.cells] w (eN b (.bool (dF k p x)) (asks k p x) w):=by
 have HB1:Hid (dF k p x=true):=hU (by rw [dF,hxn];rfl);have HA:Hid (asks k p x=answer k p x 0 (dA k x.a)):=hU (by rw [asks,hxn];show answer k (if dA k x.a=0 then _ else p) x 0 (dA k x.a)=_;rw [if_neg hi]);obtain ⟨y,bs,hk0,hl⟩:=hk;have hbl:=hlt hk0;have hn:k.p.length≤1000000:=Nat.le_trans hf.n (by omega);have HF:=hU hf;have HX:=hU hx;clear hf hx;have hxc:x.cells[0]? =some (.int .u32 17):=by rw [← hxn];rfl
 clear hxn;obtain ⟨W0,hW0,K0,P0,X0,E0,L0,hz0,hzK,hzP,hzX⟩:=st2 p.cells 121 x.cells 119 hk0 hl;have kXn:W0.cell? ⟨w.heap.size + 1,0,none⟩=some (.int .u32 17):=(aC X0.out 0).trans hxc;have kXa:W0.cell? ⟨w.heap.size + 1,1,none⟩=some (.int .u32 x.a):=aC X0.out 1;have kP0:W0.cell? ⟨w.heap.size,0,none⟩=some (.int .i64 p.pid):=aC P0.out 0;go_in
 repeat' (first
  |(rw [hW0];clear hW0)
  |go_values|go_skip|go_guarded|refine wg ?_|go_step|go_upon)
 refine (qAd b k x.a _ ⟨_,_,K0.out,L0.out⟩ HX.out.a0 HX.out.a1 (Nat.le_trans HF.out.im (by decide))).mono ?_;rintro er W1 ⟨rfl,hb⟩;obtain ⟨K1,P1,X1,E1,L1⟩:=n5 hb K0 P0 X0 E0 L0;clear K0 P0 X0 E0 L0;clear hb;dsimp only;have hib:(dA k x.a==0)=false:=by simp [hi]
 repeat' (first
  |(refine aE (t:=121) (v:=.agg p.cells) rfl rfl rfl (aD aL P1.out rfl) ?_)
  |(refine aE (t:=119) (v:=.agg x.cells) rfl rfl rfl (aD dD X1.out rfl) ?_)
  |go_values|go_skip|go_guarded|refine wg ?_|go_step|go_upon)
 refine (fL b k p x 0 (dA k x.a) _ ⟨_,_,K1.out,L1.out⟩ (mX k x.a).1 (mX k x.a).2 hn HF.out.tr).mono ?_;rintro er W2 ⟨hret,⟨y2,bs2,hkk,hll⟩,hke⟩;have P2:=mB hke P1;have X2:=mB hke X1;have K2:=hU hkk;have E2:=mE hke E1;have L2:=hU hll;clear hkk hll hke;clear K1 P1 X1 E1 L1;obtain ⟨er2,rfl⟩:=hret;dsimp only;refine sg ?_;intros;go_ret;rw [HB1.out,HA.out];exact ⟨rfl,⟨_,_,K2.out,L2.out⟩,E2.out⟩
theorem qRm (b:Nat) (k:aI) (p:Proc) (x:Call) (w:World) (hk:cH w b k) (hf:Fit k) (hx:nD x) (h1:x.n ≠ 1) (h7:x.n ≠ 7) (h8:x.n ≠ 8) (h20:x.n ≠ 20) (h19:x.n ≠ 19) (h18:x.n ≠ 18) (h5:x.n ≠ 5) (h3:x.n ≠ 3) (h2:x.n ≠ 2) (h17:x.n ≠ 17) (hp:find k.p p.pid=some p) (ht:eM k p.pid x=true):
 Calls prog 86 #[.pointer (some ⟨b,0,none⟩),.agg p.cells,.agg x.cells] w (eN b (.bool (dF k p x)) (asks k p x) w):=by
 have hka:dF k p x=eM k p.pid x:=by
  rw [dF,if_neg h1,if_neg h7,if_neg h8,if_neg h20,if_neg h19,if_neg h18,if_neg h5,if_neg h3,if_neg h2,if_neg h17]
 have hkk:asks k p x=if eM k p.pid x=true then tries k p.pid x else stops (tries k p.pid x) p 2 x:=by
  rw [asks,if_neg h1,if_neg h7,if_neg h8,if_neg h20,if_neg h19,if_neg h18,if_neg h5,if_neg h3,if_neg h2,if_neg h17]
 have HB1:Hid (dF k p x=true):=hU (by rw [hka,ht]);have HA:Hid (asks k p x=tries k p.pid x):=hU (by rw [hkk,if_pos ht]);have g1:(x.n==1)=false:=by simp [h1]
 have g7:(x.n==7)=false:=by simp [h7]
 have g8:(x.n==8)=false:=by simp [h8]
 have g20:(x.n==20)=false:=by simp [h20]
 have g19:(x.n==19)=false:=by simp [h19]
 have g18:(x.n==18)=false:=by simp [h18]
 have g5:(x.n==5)=false:=by simp [h5]
 have g3:(x.n==3)=false:=by simp [h3]
 have g2:(x.n==2)=false:=by simp [h2]
 have g17:(x.n==17)=false:=by simp [h17]
 clear h1 h7 h8 h20 h19 h18 h5 h3 h2 h17 hka hkk;have HP:=hU hp;clear hp;obtain ⟨ht2,hn2,he0,he1⟩:=qY k p x;have HTK:=hU ht2;have HNK:=hU hn2;have HE0:=hU he0;have HE1:=hU he1;have HT:=hU ht;clear ht2 hn2 he0 he1 ht;obtain ⟨y,bs,hk0,hl⟩:=hk;have hbl:=hlt hk0;have hn:k.p.length≤1000000:=Nat.le_trans hf.n (by omega);have HF:=hU hf;have HX:=hU hx;clear hf hx;obtain ⟨W0,hW0,K0,P0,X0,E0,L0,hz0,hzK,hzP,hzX⟩:=st2 p.cells 121 x.cells 119 hk0 hl;have kXn:W0.cell? ⟨w.heap.size + 1,0,none⟩=some (.int .u32 x.n):=aC X0.out 0;have kXa:W0.cell? ⟨w.heap.size + 1,1,none⟩=some (.int .u32 x.a):=aC X0.out 1;have kP0:W0.cell? ⟨w.heap.size,0,none⟩=some (.int .i64 p.pid):=aC P0.out 0;go_in
 repeat' (first
  |(rw [hW0];clear hW0)
  |(refine aE (t:=119) (v:=.agg x.cells) rfl rfl rfl (aD dD X0.out rfl) ?_)
  |go_values|go_skip|go_guarded|refine wg ?_|go_step|go_upon)
 refine (qHi b k p.pid p x _ ⟨_,_,K0.out,L0.out⟩ HF.out HX.out HP.out (Nat.le_trans HNK.out (by have:=HF.out.n;omega)) (by rw [HTK.out];exact HF.out.tr) HE0.out HE1.out).mono ?_;rintro er W1 ⟨hret,⟨y1,bs1,hkk,hll⟩,hke⟩;have P1:=mB hke P0;have X1:=mB hke X0;have K1:=hU hkk;have E1:=mE hke E0;have L1:=hU hll;clear hkk hll hke;clear K0 P0 X0 E0 L0;subst hret;dsimp only;rw [HT.out];refine sg ?_;intros;go_ret;rw [HB1.out,HA.out];exact ⟨rfl,⟨_,_,K1.out,L1.out⟩,E1.out⟩
theorem qRn (b:Nat) (k:aI) (p:Proc) (x:Call) (w:World) (hk:cH w b k) (hf:Fit k) (hx:nD x) (h1:x.n ≠ 1) (h7:x.n ≠ 7) (h8:x.n ≠ 8) (h20:x.n ≠ 20) (h19:x.n ≠ 19) (h18:x.n ≠ 18) (h5:x.n ≠ 5) (h3:x.n ≠ 3) (h2:x.n ≠ 2) (h17:x.n ≠ 17) (hp:find k.p p.pid=some p) (ht:eM k p.pid x=false):
 Calls prog 86 #[.pointer (some ⟨b,0,none⟩),.agg p.cells,.agg x.cells] w (eN b (.bool (dF k p x)) (asks k p x) w):=by
 have hka:dF k p x=eM k p.pid x:=by
  rw [dF,if_neg h1,if_neg h7,if_neg h8,if_neg h20,if_neg h19,if_neg h18,if_neg h5,if_neg h3,if_neg h2,if_neg h17]
 have hkk:asks k p x=if eM k p.pid x=true then tries k p.pid x else stops (tries k p.pid x) p 2 x:=by
  rw [asks,if_neg h1,if_neg h7,if_neg h8,if_neg h20,if_neg h19,if_neg h18,if_neg h5,if_neg h3,if_neg h2,if_neg h17]
 have HB1:Hid (dF k p x=false):=hU (by rw [hka,ht]);have HA:Hid (asks k p x=stops k p 2 x):=hU (by rw [hkk,if_neg (by rw [ht];decide),nC ht]);have g1:(x.n==1)=false:=by simp [h1]
 have g7:(x.n==7)=false:=by simp [h7]
 have g8:(x.n==8)=false:=by simp [h8]
 have g20:(x.n==20)=false:=by simp [h20]
 have g19:(x.n==19)=false:=by simp [h19]
 have g18:(x.n==18)=false:=by simp [h18]
 have g5:(x.n==5)=false:=by simp [h5]
 have g3:(x.n==3)=false:=by simp [h3]
 have g2:(x.n==2)=false:=by simp [h2]
 have g17:(x.n==17)=false:=by simp [h17]
 clear h1 h7 h8 h20 h19 h18 h5 h3 h2 h17 hka hkk;have HP:=hU hp;clear hp;obtain ⟨ht2,hn2,he0,he1⟩:=qY k p x;have HTK:=hU ht2;have HNK:=hU hn2;have HE0:=hU he0;have HE1:=hU he1;have HT:=hU ht;clear ht2 hn2 he0 he1 ht;obtain ⟨y,bs,hk0,hl⟩:=hk;have hbl:=hlt hk0;have hn:k.p.length≤1000000:=Nat.le_trans hf.n (by omega);have HF:=hU hf;have HX:=hU hx;clear hf hx;obtain ⟨W0,hW0,K0,P0,X0,E0,L0,hz0,hzK,hzP,hzX⟩:=st2 p.cells 121 x.cells 119 hk0 hl;have kXn:W0.cell? ⟨w.heap.size + 1,0,none⟩=some (.int .u32 x.n):=aC X0.out 0;have kXa:W0.cell? ⟨w.heap.size + 1,1,none⟩=some (.int .u32 x.a):=aC X0.out 1;have kP0:W0.cell? ⟨w.heap.size,0,none⟩=some (.int .i64 p.pid):=aC P0.out 0;go_in
 repeat' (first
  |(rw [hW0];clear hW0)
  |(refine aE (t:=119) (v:=.agg x.cells) rfl rfl rfl (aD dD X0.out rfl) ?_)
  |go_values|go_skip|go_guarded|refine wg ?_|go_step|go_upon)
 refine (qHi b k p.pid p x _ ⟨_,_,K0.out,L0.out⟩ HF.out HX.out HP.out (Nat.le_trans HNK.out (by have:=HF.out.n;omega)) (by rw [HTK.out];exact HF.out.tr) HE0.out HE1.out).mono ?_;rintro er W1 ⟨hret,⟨y1,bs1,hkk,hll⟩,hke⟩;have P1:=mB hke P0;have X1:=mB hke X0;have K1:=hU hkk;have E1:=mE hke E0;have L1:=hU hll;clear hkk hll hke;clear K0 P0 X0 E0 L0;subst hret;dsimp only;rw [HT.out];rw [nC HT.out] at K1 L1
 repeat' (first
  |(refine aE (t:=121) (v:=.agg p.cells) rfl rfl rfl (aD aL P1.out rfl) ?_)
  |(refine aE (t:=119) (v:=.agg x.cells) rfl rfl rfl (aD dD X1.out rfl) ?_)
  |go_values|go_skip|go_guarded|refine wg ?_|go_step|go_upon)
 refine (qOi b k p 2 x _ ⟨_,_,K1.out,L1.out⟩ hn HF.out.t).mono ?_;rintro er W2 ⟨hret,⟨y2,bs2,hkk,hll⟩,hke⟩;have P2:=mB hke P1;have X2:=mB hke X1;have K2:=hU hkk;have E2:=mE hke E1;have L2:=hU hll;clear hkk hll hke;clear K1 P1 X1 E1 L1;obtain ⟨er2,rfl⟩:=hret;dsimp only;refine sg ?_;intros;go_ret;rw [HB1.out,HA.out];exact ⟨rfl,⟨_,_,K2.out,L2.out⟩,E2.out⟩
theorem qYy (b:Nat) (k:aI) (p:Proc) (x:Call) (w:World) (hk:cH w b k) (hf:Fit k) (hx:nD x) (hp:find k.p p.pid=some p) (hw0: -1000000≤k.want) (hw1:k.want≤1000000):
 Calls prog 86 #[.pointer (some ⟨b,0,none⟩),.agg p.cells,.agg x.cells] w (eN b (.bool (dF k p x)) (asks k p x) w):=by
 by_cases h1:x.n=1
 · exact qVu b k p x w hk hf hx h1
 by_cases h7:x.n=7
 · exact qVx b k p x w hk hf hx h7
 by_cases h8:x.n=8
 · by_cases ha:0<x.a
   · exact qRk b k p x w hk hf hx h8 ha
   · exact qRl b k p x w hk hf hx h8 ha
 by_cases h20:x.n=20
 · by_cases ha:3≤x.a
   · exact qOd b k p x w hk hf hx h20 ha
   · exact qOe b k p x w hk hf hx h20 ha
 by_cases h19:x.n=19
 · exact qRh b k p x w hk hf hx h19 hw0 hw1
 by_cases h18:x.n=18
 · exact qRg b k p x w hk hf hx h18 hw0 hw1
 by_cases h5:x.n=5
 · exact qVw b k p x w hk hf hx h5
 by_cases h3:x.n=3
 · exact qVv b k p x w hk hf hx h3
 by_cases h2:x.n=2
 · by_cases hi:dA k x.a=0
   · exact qRi b k p x w hk hf hx h2 hi
   · exact qRj b k p x w hk hf hx h2 hi
 by_cases h17:x.n=17
 · by_cases hi:dA k x.a=0
   · exact qOb b k p x w hk hf hx h17 hi
   · exact qOc b k p x w hk hf hx h17 hi
 cases ht:eM k p.pid x with
 |true=> exact qRm b k p x w hk hf hx h1 h7 h8 h20 h19 h18 h5 h3 h2 h17 hp ht
 |false=> exact qRn b k p x w hk hf hx h1 h7 h8 h20 h19 h18 h5 h3 h2 h17 hp ht
