/- work.kills: one process ends another one. Conditions: as told. -/
import Derived.Test.YtfncknignkndiaaGreatDoorGFit
import Derived.Test.YtfncknignkndiaaGreatDoorKwEnds
set_option linter.unusedVariables false
set_option maxRecDepth 100000
set_option maxHeartbeats 8000000
set_option linter.unusedSimpArgs false
namespace Go.Proofs.YtfncknignkndiaaGreatDoor
open Tryz
open Go.RowKit KR RegT3
namespace Kn
theorem qWc (b:Nat) (k:aI) (p:Proc) (x:Call) (w:World) (hk:cH w b k) (hf:Fit k) (hx:nD x):
 Calls prog 137 #[.pointer (some ⟨b,0,none⟩),.agg p.cells,.agg x.cells] w (eN b (.bool (lL k p x)) (jR k p x) w):=by
 obtain ⟨y,bs,hk0,hl⟩:=hk;have hbl:=hlt hk0;have hn:k.p.length≤1000000:=Nat.le_trans hf.n (by omega);have hxa:IntKind.i64.wrap x.a=x.a:=by rw [IntKind.wrap_i64];have:=hx.a0;have:=hx.a1;omega
 obtain ⟨q,hq⟩:∃ q,(find k.p x.a).getD Proc.zero=q:=⟨_,rfl⟩
 obtain ⟨f,hfi⟩:∃ f,(find k.p x.a).isSome=f:=⟨_,rfl⟩
 have hv:pU k x=(f && !(q.st==4)):=by rw [pU,← hq,← hfi];cases find k.p x.a <;> rfl
 have hqp:f=true→q.pid=x.a:=by
  intro h;rw [← hq];cases hz:find k.p x.a with
  |none=> rw [hz] at hfi;rw [← hfi] at h;cases h
  |some z=> have:=List.find?_some hz;simpa using this
 have HF:=hU (fun W h=> show Calls prog 81 #[y.p,.int .i64 x.a] W (aN (.tuple #[.agg q.cells,.bool f]) W) by rw [← hq,← hfi];exact oK y.p k.p x.a W h);have HV:=hU hv;have HQP:=hU hqp;have HFT:=hU hf;clear hv hqp hq hfi hf hx;obtain ⟨W0,hW0,K0,P0,X0,E0,L0,hz0,hzK,hzP,hzX⟩:=st2 p.cells 121 x.cells 119 hk0 hl;go_in
 repeat' (first
  |(rw [hW0];clear hW0)
  |go_values|go_skip|go_guarded|refine wg ?_|go_step|go_upon)
 refine wp_region_noPanic ?_;refine go0 (S:=fun W=> (W.cell? ⟨b,0,none⟩=some y.p)∧(W.cell? ⟨w.heap.size + 1,1,none⟩=some (.int .u32 x.a))) [13] (⟨aC K0.out 0,aC X0.out 1⟩) fun hS=> ?_;obtain ⟨W1,hWd⟩:=exW W0.drew;obtain ⟨K1,P1,X1,E1,L1⟩:=n5 (dW hWd) K0 P0 X0 E0 L0;rw [hWd] at hS ⊢;clear hWd;clear K0 P0 X0 E0 L0;refine ts [.p 0,.p 1,.p 2,.p 3,.l 4,.p 5,.l 6,.p 7] ?_;clear hS;revert K1 P1 X1 E1 L1;apply KR.qZq (F:=fun (abQ:Nat) (W3:World)=> Hid (W3.heap[b]? =some (.cells (aJ y k) 104 (0,0)))∧Hid (W3.heap[w.heap.size]? =some (.cells p.cells 121 (0,0)))∧Hid (W3.heap[abQ]? =some (.cells zPr 121 (0,0)))∧Hid (W3.heap[(w.heap.size + 1)]? =some (.cells x.cells 119 (0,0)))∧Hid (KR.Kept b w W3)∧Hid (aH W3 y bs k)∧(w.heap.size≤abQ)∧(b<abQ)∧(w.heap.size<abQ)∧(w.heap.size + 1<abQ)∧(gL y.p k.p.length abQ))
 case h2=>
  intro hj K1 P1 X1 E1 L1;refine oT (i:=8) (j:=12) (by kernel_rfl) rfl rfl (fun K hK=> ?_) (fun K hK=> ?_)
  · skip
    refine want rfl ?_;go_simp;refine (HF.out _ L1.out.p).mono ?_;rintro er W2 ⟨rfl,hb⟩;obtain ⟨K2,P2,X2,E2,L2⟩:=n5 hb K1 P1 X1 E1 L1;clear K1 P1 X1 E1 L1;clear hb;dsimp only;try clear hS
    refine nx hK (⟨aC K2.out 0,aC X2.out 1⟩) fun hS=> ?_;clear hK K;(try simp only [aF])
    refine ts [.p 9,.p 10,.p 11] ?_;refine ro 12 fun K hK=> ?_;obtain ⟨abQ,hab,hab1Q⟩:=nb0 E2;have habKQ:=nlt K2 hab;have habPQ:=nlt P2 hab;have habXQ:=nlt X2 hab;have hoffQ:=L2.out.p.dJ (Nat.le_of_eq hab);go_simp;obtain ⟨W3,hWn,hba,Q3⟩:=nb1 (.cells zPr 121) hab;rw [hWn];clear hWn;obtain ⟨K3,P3,X3,E3,L3⟩:=n5 hba K2 P2 X2 E2 L2;clear K2 P2 X2 E2 L2;clear hba;try rw [hab]
    clear hab;try clear hS
    refine nx hK (⟨aC K3.out 0,aC X3.out 1⟩) fun hS=> ?_;clear hK K;(try simp only [aF])
    exact hj abQ W3 ⟨K3,P3,Q3,X3,E3,L3,hab1Q,habKQ,habPQ,habXQ,hoffQ⟩
  · skip
    obtain ⟨abQ,hab,hab1Q⟩:=nb0 E1;have habKQ:=nlt K1 hab;have habPQ:=nlt P1 hab;have habXQ:=nlt X1 hab;have hoffQ:=L1.out.p.dJ (Nat.le_of_eq hab);go_simp;obtain ⟨W2,hWn,hba,Q2⟩:=nb1 (.cells zPr 121) hab;rw [hWn];clear hWn;obtain ⟨K2,P2,X2,E2,L2⟩:=n5 hba K1 P1 X1 E1 L1;clear K1 P1 X1 E1 L1;clear hba;try rw [hab]
    clear hab;try clear hS
    refine nx hK (⟨aC K2.out 0,aC X2.out 1⟩) fun hS=> ?_;clear hK K;(try simp only [aF])
    refine ro 8 fun K hK=> ?_;refine want rfl ?_;go_simp;refine (HF.out _ L2.out.p).mono ?_;rintro er W3 ⟨rfl,hb⟩;obtain ⟨K3,P3,X3,Q3,E3,L3⟩:=n6 hb K2 P2 X2 Q2 E2 L2;clear K2 P2 X2 Q2 E2 L2;clear hb;dsimp only;try clear hS
    refine nx hK (⟨aC K3.out 0,aC X3.out 1⟩) fun hS=> ?_;clear hK K;(try simp only [aF])
    refine ts [.p 9,.p 10,.p 11] ?_;exact hj abQ W3 ⟨K3,P3,Q3,X3,E3,L3,hab1Q,habKQ,habPQ,habXQ,hoffQ⟩
 rintro abQ W3 ⟨K3,P3,Q3,X3,E3,L3,hab1Q,habKQ,habPQ,habXQ,hoffQ⟩;have hS:(fun W:World=> (W.cell? ⟨b,0,none⟩=some y.p)∧(W.cell? ⟨w.heap.size + 1,1,none⟩=some (.int .u32 x.a))) W3:=⟨aC K3.out 0,aC X3.out 1⟩
 refine ro 13 fun K hK=> ?_;refine want rfl ?_;refine cL (v:=.agg q.cells) (off:=0) (new:=q.cells) rfl rfl rfl aL.size Q3.out rfl (show 0 + 26≤26 by decide) (dK q) rfl ?_;intro W4 hp;have E4:=pE hp E3;have L4:Hid (aH W4 y bs k):=hU (L3.out.dG (L3.out.p.dY hoffQ hp) Q3.out hp);have Q4:=pA hp;have K4:=pT hp Q3 K3;have P4:=pO hp P3;have X4:=pT hp Q3 X3;clear hp;clear K3 P3 X3 Q3 E3 L3;refine nt hK ?_;clear hK K;try clear hS
 (try simp only [aF])
 refine tp 14 ?_;try simp only [aF]
 refine aZ (by kernel_rfl) (NoPanic.normal ?_) _;try clear hS
 have kA:W4.cell? ⟨w.heap.size + 1,1,none⟩=some (.int .u32 x.a):=aC X4.out 1;have kQ2:W4.cell? ⟨abQ,2,none⟩=some (.int .i64 q.st):=aC Q4.out 2;have kQ0:W4.cell? ⟨abQ,0,none⟩=some (.int .i64 q.pid):=aC Q4.out 0;have zQ:=hlt Q4.out;have zX:=hlt X4.out;by_cases h1:x.a=1
 · have HB1:Hid (lL k p x=true):=hU (by rw [lL,decide_eq_true h1];rfl);have HA:Hid (jR k p x=answer k p x 0 13):=hU (by rw [jR,if_pos h1]);have h1b:(x.a==1)=true:=by simp [h1]
   clear h1
   repeat' (first
    |(refine aE (t:=121) (v:=.agg p.cells) rfl rfl rfl (aD aL P4.out rfl) ?_)
    |(refine aE (t:=119) (v:=.agg x.cells) rfl rfl rfl (aD dD X4.out rfl) ?_)
    |go_values|go_skip|go_guarded|refine wg ?_|go_step|go_upon)
   refine (fL b k p x 0 13 _ ⟨_,_,K4.out,L4.out⟩ (by decide) (by decide) hn HFT.out.tr).mono ?_;rintro er W5 ⟨hret,⟨y5,bs5,hkk,hll⟩,hke⟩;have P5:=mB hke P4;have X5:=mB hke X4;have Q5:=mB hke Q4;have K5:=hU hkk;have E5:=mE hke E4;have L5:=hU hll;clear hkk hll hke;clear K4 P4 X4 Q4 E4 L4;obtain ⟨er2,rfl⟩:=hret;dsimp only;refine sg ?_;intros;go_ret;rw [HB1.out,HA.out];exact ⟨rfl,⟨_,_,K5.out,L5.out⟩,E5.out⟩
 have h1b:(x.a==1)=false:=by simp [h1]
 cases f
 · have hvf:pU k x=false:=HV.out;have HB1:Hid (lL k p x=true):=hU (by rw [lL,hvf];simp);have HA:Hid (jR k p x=answer k p x 0 7):=hU (by rw [jR,if_neg h1,if_pos hvf]);clear h1 hvf
   repeat' (first
    |(refine aE (t:=121) (v:=.agg p.cells) rfl rfl rfl (aD aL P4.out rfl) ?_)
    |(refine aE (t:=119) (v:=.agg x.cells) rfl rfl rfl (aD dD X4.out rfl) ?_)
    |go_values|go_skip|go_guarded|refine wg ?_|go_step|go_upon)
   refine (fL b k p x 0 7 _ ⟨_,_,K4.out,L4.out⟩ (by decide) (by decide) hn HFT.out.tr).mono ?_;rintro er W5 ⟨hret,⟨y5,bs5,hkk,hll⟩,hke⟩;have P5:=mB hke P4;have X5:=mB hke X4;have Q5:=mB hke Q4;have K5:=hU hkk;have E5:=mE hke E4;have L5:=hU hll;clear hkk hll hke;clear K4 P4 X4 Q4 E4 L4;obtain ⟨er2,rfl⟩:=hret;dsimp only;refine sg ?_;intros;go_ret;rw [HB1.out,HA.out];exact ⟨rfl,⟨_,_,K5.out,L5.out⟩,E5.out⟩
 cases h4:(q.st==4)
 rotate_left
 · have hvf:pU k x=false:=by rw [HV.out,h4];rfl
   have HB1:Hid (lL k p x=true):=hU (by rw [lL,hvf];simp);have HA:Hid (jR k p x=answer k p x 0 7):=hU (by rw [jR,if_neg h1,if_pos hvf]);clear h1 hvf
   repeat' (first
    |(refine aE (t:=121) (v:=.agg p.cells) rfl rfl rfl (aD aL P4.out rfl) ?_)
    |(refine aE (t:=119) (v:=.agg x.cells) rfl rfl rfl (aD dD X4.out rfl) ?_)
    |go_values|go_skip|go_guarded|refine wg ?_|go_step|go_upon)
   refine (fL b k p x 0 7 _ ⟨_,_,K4.out,L4.out⟩ (by decide) (by decide) hn HFT.out.tr).mono ?_;rintro er W5 ⟨hret,⟨y5,bs5,hkk,hll⟩,hke⟩;have P5:=mB hke P4;have X5:=mB hke X4;have Q5:=mB hke Q4;have K5:=hU hkk;have E5:=mE hke E4;have L5:=hU hll;clear hkk hll hke;clear K4 P4 X4 Q4 E4 L4;obtain ⟨er2,rfl⟩:=hret;dsimp only;refine sg ?_;intros;go_ret;rw [HB1.out,HA.out];exact ⟨rfl,⟨_,_,K5.out,L5.out⟩,E5.out⟩
 have hvt:pU k x=true:=by rw [HV.out,h4];rfl
 have hqa:=HQP.out rfl;rw [hqa] at kQ0;have HQA:=hU hqa;have HVT:=hU hvt;have H1:=hU h1;clear hqa hvt h1;refine sg ?_;intros;refine (qOg b k x.a 137 0 _ ⟨_,_,K4.out,L4.out⟩ hn HFT.out.t HFT.out.a HFT.out.pl HFT.out.pb HFT.out.hl (by decide) (by decide)).mono ?_;rintro er W5 ⟨hret,⟨y5,bs5,hkk,hll⟩,hke⟩;have P5:=mB hke P4;have X5:=mB hke X4;have Q5:=mB hke Q4;have K5:=hU hkk;have E5:=mE hke E4;have L5:=hU hll;clear hkk hll hke;clear K4 P4 X4 Q4 E4 L4;obtain ⟨er2,rfl⟩:=hret;dsimp only;clear kA kQ2 kQ0;have kQ0:W5.cell? ⟨abQ,0,none⟩=some (.int .i64 x.a):=(aC Q5.out 0).trans (congrArg (fun z=> some (Value.int .i64 z)) HQA.out);have kP0:W5.cell? ⟨w.heap.size,0,none⟩=some (.int .i64 p.pid):=aC P5.out 0;by_cases hs:x.a=p.pid
 · have HB1:Hid (lL k p x=false):=hU (by rw [lL,decide_eq_true hs,HVT.out,decide_eq_false H1.out];rfl);have HA:Hid (jR k p x=ends k x.a 137 0):=hU (by rw [jR,if_neg H1.out,if_neg (by rw [HVT.out];simp)];exact if_pos hs);have hsb:(x.a==p.pid)=true:=by simp [hs]
   clear hs;refine sg ?_;intros;go_ret;rw [HB1.out,HA.out];exact ⟨rfl,⟨_,_,K5.out,L5.out⟩,E5.out⟩
 obtain ⟨p2,hp2⟩:∃ p2,(find (ends k x.a 137 0).p p.pid).getD Proc.zero=p2:=⟨_,rfl⟩
 have HB1:Hid (lL k p x=true):=hU (by rw [lL,decide_eq_false hs,HVT.out];simp);have HA:Hid (jR k p x=answer (ends k x.a 137 0) p2 x 0 0):=hU (by rw [jR,if_neg H1.out,if_neg (by rw [HVT.out];simp),← hp2];exact if_neg hs);have hsb:(x.a==p.pid)=false:=by simp [hs]
 clear hs;have hlen:(ends k x.a 137 0).p.length≤1000000:=Nat.le_trans (qFv k x.a 137 0) (by have:=HFT.out.n;omega);have htr:(ends k x.a 137 0).trace.length≤1000000:=by rw [qHr];exact HFT.out.tr
 have HF2:=hU (fun W h=> show Calls prog 81 #[y5.p,.int .i64 p.pid] W (aN (.tuple #[.agg p2.cells,.bool (find (ends k x.a 137 0).p p.pid).isSome]) W) by rw [← hp2];exact oK y5.p (ends k x.a 137 0).p p.pid W h);have HPP:=hU hp2;clear hp2;refine sg ?_;intros;clear kQ0 kP0;refine wp_region_noPanic ?_;refine go0 (S:=fun W=> (W.cell? ⟨b,0,none⟩=some y5.p)∧(W.cell? ⟨w.heap.size,0,none⟩=some (.int .i64 p.pid))) [11] (⟨aC K5.out 0,aC P5.out 0⟩) fun hS=> ?_;obtain ⟨W6,hWd⟩:=exW W5.drew;obtain ⟨K6,P6,X6,Q6,E6,L6⟩:=n6 (dW hWd) K5 P5 X5 Q5 E5 L5;rw [hWd] at hS ⊢;clear hWd;clear K5 P5 X5 Q5 E5 L5;refine ts [.p 0,.p 1,.p 2,.p 3,.l 4,.p 5,.l 6] ?_;refine ro 7 fun K hK=> ?_;refine want rfl ?_;go_simp;refine (HF2.out _ L6.out.p).mono ?_;rintro er W7 ⟨rfl,hb⟩;obtain ⟨K7,P7,X7,Q7,E7,L7⟩:=n6 hb K6 P6 X6 Q6 E6 L6;clear K6 P6 X6 Q6 E6 L6;clear hb;dsimp only;try clear hS
 refine nx hK (⟨aC K7.out 0,aC P7.out 0⟩) fun hS=> ?_;clear hK K;(try simp only [aF])
 refine ts [.p 8,.p 9,.p 10] ?_;refine ro 11 fun K hK=> ?_;refine want rfl ?_;refine cL (v:=.agg p2.cells) (off:=0) (new:=p2.cells) rfl rfl rfl aL.size P7.out rfl (show 0 + 26≤26 by decide) (dK p2) rfl ?_;intro W8 hp;have E8:=pE hp E7;have L8:Hid (aH W8 y5 bs5 (ends k x.a 137 0)):=hU (L7.out.dG (SlP.qEq L7.out.p P7.out (by rw [HPP.out];exact hp)) P7.out hp);have P8:=pA hp;have K8:=pT hp P7 K7;have X8:=pT hp P7 X7;have Q8:=pO hp Q7;clear hp;clear K7 P7 X7 Q7 E7 L7;refine nt hK ?_;clear hK K;try clear hS
 (try simp only [aF])
 refine aZ (by kernel_rfl) (NoPanic.normal ?_) _;try clear hS
 repeat' (first
  |(refine aE (t:=121) (v:=.agg p2.cells) rfl rfl rfl (aD aL P8.out rfl) ?_)
  |(refine aE (t:=119) (v:=.agg x.cells) rfl rfl rfl (aD dD X8.out rfl) ?_)
  |go_values|go_skip|go_guarded|refine wg ?_|go_step|go_upon)
 refine (fL b (ends k x.a 137 0) p2 x 0 0 _ ⟨_,_,K8.out,L8.out⟩ (by decide) (by decide) hlen htr).mono ?_;rintro er W9 ⟨hret,⟨y9,bs9,hkk,hll⟩,hke⟩;have P9:=mB hke P8;have X9:=mB hke X8;have Q9:=mB hke Q8;have K9:=hU hkk;have E9:=mE hke E8;have L9:=hU hll;clear hkk hll hke;clear K8 P8 X8 Q8 E8 L8;obtain ⟨er2,rfl⟩:=hret;dsimp only;refine sg ?_;intros;go_ret;rw [HB1.out,HA.out];exact ⟨rfl,⟨_,_,K9.out,L9.out⟩,E9.out⟩
theorem qHi (b:Nat) (k:aI) (pid:Int) (p:Proc) (x:Call) (w:World) (hk:cH w b k) (hf:Fit k) (hx:nD x) (hp:find k.p pid=some p) (hn2:(aW k p x).k.p.length≤1000000) (ht2:(aW k p x).k.trace.length≤1000000) (he0:0≤(aW k p x).e) (he1:(aW k p x).e<100):
 Calls prog 83 #[.pointer (some ⟨b,0,none⟩),.int .i64 pid,.agg x.cells] w (eN b (.bool (eM k pid x)) (tries k pid x) w):=by
 obtain ⟨y,bs,hk0,hl⟩:=hk;have hbl:=hlt hk0;obtain ⟨hpm,hpp⟩:p ∈ k.p∧p.pid=pid:=⟨List.mem_of_find?_eq_some hp,by have:=List.find?_some hp;simpa using this⟩
 have hway:=qMx b hf (hf.mem p hpm) hx;have hF:=fun W h=> oK y.p k.p pid W h;rw [hp] at hF;have HF:Hid (∀ W,SlP W y.p k.p→Calls prog 81 #[y.p,.int .i64 pid] W (aN (.tuple #[.agg p.cells,.bool true]) W)):=hU hF;clear hF;have HT1:Hid (eM k pid x= !((aW k p x).e==6 && !(x.n==16))):=hU (by rw [eM,hp];rfl);have HT2:Hid (tries k pid x=if eM k pid x=true then answer (aW k p x).k ((find (aW k p x).k.p pid).getD Proc.zero) x (aW k p x).v (aW k p x).e else (aW k p x).k):=hU (by rw [tries,hp];rfl);clear hp hpm hf hx;obtain ⟨W0,hW0,K0,X0,E0,L0,hz0,hzK,hzX⟩:=st1 x.cells 119 hk0 hl;have kP0:W0.cell? ⟨b,0,none⟩=some y.p:=aC K0.out 0;rcases hway with ⟨f,hw,hen,hcl⟩|⟨hw,ht⟩
 · obtain ⟨r,hr⟩:∃ r,aW k p x=r:=⟨_,rfl⟩
   rw [hr] at HT1 HT2 hcl hn2 ht2 he0 he1;clear hr;have HEN:=hU hen;have HCL:=hU hcl;clear hen hcl;go_in
   repeat' (first
    |(rw [hW0];clear hW0)
    |go_values|go_skip|go_guarded|refine wg ?_|go_step|go_upon)
   refine (HF.out _ L0.out.p).mono ?_;rintro er W1 ⟨rfl,hb⟩;obtain ⟨K1,X1,E1,L1⟩:=n4 hb K0 X0 E0 L0;clear K0 X0 E0 L0;clear hb kP0;dsimp only;obtain ⟨abP,hab,hab1P⟩:=nb0 E1;have habKP:=nlt K1 hab;have habXP:=nlt X1 hab;have hoffP:=L1.out.p.dJ (Nat.le_of_eq hab);obtain ⟨W2,hWn,hba,P2⟩:=nb1 (.cells zPr 121) hab;obtain ⟨K2,X2,E2,L2⟩:=n4 hba K1 X1 E1 L1;clear K1 X1 E1 L1;clear hba
   repeat' (first
    |(rw [hWn,hab];clear hWn hab)
    |(refine sN 121 (.agg p.cells) 0 p.cells aL.size P2.out (dK p) fun W3 hp=> ?_
      have E3:=pE hp E2;have L3:Hid (aH W3 y bs k):=hU (L2.out.dG (L2.out.p.dY hoffP hp) P2.out hp);have P3:=pA hp;have K3:=pT hp P2 K2;have X3:=pT hp P2 X2;clear hp;clear K2 X2 P2 E2 L2;have kXn:W3.cell? ⟨w.heap.size,0,none⟩=some (.int .u32 x.n):=aC X3.out 0)
    |go_values|go_skip|go_guarded|refine wg ?_|go_step|go_upon)
   try clear hWn hab
   refine (qOa x.n _).mono ?_;rintro er W4 ⟨rfl,hb⟩;obtain ⟨K4,X4,P4,E4,L4⟩:=n5 hb K3 X3 P3 E3 L3;clear K3 X3 P3 E3 L3;clear hb kXn;dsimp only;rw [hw];clear hw;dsimp only;obtain ⟨abT,hab,hab1T⟩:=nb0 E4;have habKT:=nlt K4 hab;have habXT:=nlt X4 hab;have habPT:=nlt P4 hab;obtain ⟨W5,hWn,hba,T5⟩:=nb1 (.cells #[.nilFunc] 224) hab;obtain ⟨K5,X5,P5,E5,L5⟩:=n5 hba K4 X4 P4 E4 L4;clear K4 X4 P4 E4 L4;clear hba
   repeat' (first
    |(rw [hWn,hab];clear hWn hab)
    |(refine sN 224 (.agg #[(.func (.func f) #[] #[])]) 0 #[(.func (.func f) #[] #[])] fM.size T5.out (by intro u hu;simp [Value.cells] at hu;subst hu;rfl) fun W6 hp=> ?_
      have E6:=pE hp E5;have L6:Hid (aH W6 y bs k):=hU (hl.kept hk0 cI E6.out);have T6:=pA hp;have K6:=pT hp T5 K5;have X6:=pT hp T5 X5;have P6:=pT hp T5 P5;clear hp;clear K5 X5 P5 T5 E5 L5;have kT:W6.cell? ⟨abT,0,none⟩=some (.func (.func f) #[] #[]):=aC T6.out 0)
    |(refine aE (t:=121) (v:=.agg p.cells) rfl rfl rfl (aD aL P6.out rfl) ?_)
    |(refine aE (t:=119) (v:=.agg x.cells) rfl rfl rfl (aD dD X6.out rfl) ?_)
    |go_values|go_skip|go_guarded|refine wg ?_|go_step|go_upon)
   try clear hWn hab
   rw [HEN.out,Oper.upon_enter];refine (HCL.out _ ⟨_,_,K6.out,L6.out⟩).mono ?_;rintro er W7 ⟨hret,⟨y7,bs7,hkk,hll⟩,hke⟩;have X7:=mB hke X6;have P7:=mB hke P6;have T7:=mB hke T6;have K7:=hU hkk;have E7:=mE hke E6;have L7:=hU hll;clear hkk hll hke;clear K6 X6 P6 T6 E6 L6;subst hret;clear kT;dsimp only;cases h6:(r.e==6)
   · skip
     have hB:eM k pid x=true:=by first|(rw [HT1.out];rfl)|(rw [HT1.out,h6];first|rfl|(rw [h16];rfl))
     have HB1:Hid (eM k pid x=true):=hU hB;have hA:=HT2.out;rw [if_pos hB] at hA;have HA:=hU hA;clear HT2 hB hA;have kXn:W7.cell? ⟨w.heap.size,0,none⟩=some (.int .u32 x.n):=aC X7.out 0;have kP8:W7.cell? ⟨b,0,none⟩=some y7.p:=aC K7.out 0;refine sg ?_;intros;refine (oK y7.p r.k.p pid _ L7.out.p).mono ?_;rintro er W8 ⟨rfl,hb⟩;obtain ⟨K8,X8,P8,T8,E8,L8⟩:=n6 hb K7 X7 P7 T7 E7 L7;clear K7 X7 P7 T7 E7 L7;clear hb kP8 kXn;dsimp only;have hpp2:((find r.k.p pid).getD Proc.zero)=(find r.k.p p.pid).getD Proc.zero:=by rw [hpp]
     have hA:=HA.out;clear HA;obtain ⟨p2,hp2⟩:∃ p2,((find r.k.p pid).getD Proc.zero)=p2:=⟨_,rfl⟩
     rw [hp2] at hpp2 hA;rw [hp2];have HPP:=hU hpp2;have HA:=hU hA;clear hp2 hpp2 hA
     repeat' (first
      |(refine sN 121 (.agg p2.cells) 0 p2.cells aL.size P8.out (dK p2) fun W9 hp=> ?_
        have E9:=pE hp E8;have L9:Hid (aH W9 y7 bs7 r.k):=hU (L8.out.dG (SlP.qEq L8.out.p P8.out (by rw [← HPP.out];exact hp)) P8.out hp);have P9:=pA hp;have K9:=pT hp P8 K8;have X9:=pT hp P8 X8;have T9:=pT hp P8 T8;clear hp;clear K8 X8 P8 T8 E8 L8)
      |(refine aE (t:=121) (v:=.agg p2.cells) rfl rfl rfl (aD aL P9.out rfl) ?_)
      |(refine aE (t:=119) (v:=.agg x.cells) rfl rfl rfl (aD dD X9.out rfl) ?_)
      |go_values|go_skip|go_guarded|refine wg ?_|go_step|go_upon)
     refine (fL b r.k p2 x r.v r.e _ ⟨_,_,K9.out,L9.out⟩ he0 he1 hn2 ht2).mono ?_;rintro er W10 ⟨hret,⟨y10,bs10,hkk,hll⟩,hke⟩;have X10:=mB hke X9;have P10:=mB hke P9;have T10:=mB hke T9;have K10:=hU hkk;have E10:=mE hke E9;have L10:=hU hll;clear hkk hll hke;clear K9 X9 P9 T9 E9 L9;obtain ⟨er2,rfl⟩:=hret;dsimp only;refine sg ?_;intros;go_ret;rw [HB1.out,HA.out];exact ⟨rfl,⟨_,_,K10.out,L10.out⟩,E10.out⟩
   cases h16:(x.n==16)
   · have hB:eM k pid x=false:=by rw [HT1.out,h6,h16];rfl
     have HB1:Hid (eM k pid x=false):=hU hB;have hA:=HT2.out;rw [if_neg (by rw [hB];simp)] at hA;have HA:=hU hA;clear HT2 hB hA;have hn16:(x.n !=16)=true:=by simp [bne,h16]
     have kXn:W7.cell? ⟨w.heap.size,0,none⟩=some (.int .u32 x.n):=aC X7.out 0;refine sg ?_;intros;go_ret;rw [HB1.out,HA.out];exact ⟨rfl,⟨_,_,K7.out,L7.out⟩,E7.out⟩
   have hn16:(x.n !=16)=false:=by simp [bne,h16]
   have hB:eM k pid x=true:=by first|(rw [HT1.out];rfl)|(rw [HT1.out,h6];first|rfl|(rw [h16];rfl))
   have HB1:Hid (eM k pid x=true):=hU hB;have hA:=HT2.out;rw [if_pos hB] at hA;have HA:=hU hA;clear HT2 hB hA;have kXn:W7.cell? ⟨w.heap.size,0,none⟩=some (.int .u32 x.n):=aC X7.out 0;have kP8:W7.cell? ⟨b,0,none⟩=some y7.p:=aC K7.out 0;refine sg ?_;intros;refine (oK y7.p r.k.p pid _ L7.out.p).mono ?_;rintro er W8 ⟨rfl,hb⟩;obtain ⟨K8,X8,P8,T8,E8,L8⟩:=n6 hb K7 X7 P7 T7 E7 L7;clear K7 X7 P7 T7 E7 L7;clear hb kP8 kXn;dsimp only;have hpp2:((find r.k.p pid).getD Proc.zero)=(find r.k.p p.pid).getD Proc.zero:=by rw [hpp]
   have hA:=HA.out;clear HA;obtain ⟨p2,hp2⟩:∃ p2,((find r.k.p pid).getD Proc.zero)=p2:=⟨_,rfl⟩
   rw [hp2] at hpp2 hA;rw [hp2];have HPP:=hU hpp2;have HA:=hU hA;clear hp2 hpp2 hA
   repeat' (first
    |(refine sN 121 (.agg p2.cells) 0 p2.cells aL.size P8.out (dK p2) fun W9 hp=> ?_
      have E9:=pE hp E8;have L9:Hid (aH W9 y7 bs7 r.k):=hU (L8.out.dG (SlP.qEq L8.out.p P8.out (by rw [← HPP.out];exact hp)) P8.out hp);have P9:=pA hp;have K9:=pT hp P8 K8;have X9:=pT hp P8 X8;have T9:=pT hp P8 T8;clear hp;clear K8 X8 P8 T8 E8 L8)
    |(refine aE (t:=121) (v:=.agg p2.cells) rfl rfl rfl (aD aL P9.out rfl) ?_)
    |(refine aE (t:=119) (v:=.agg x.cells) rfl rfl rfl (aD dD X9.out rfl) ?_)
    |go_values|go_skip|go_guarded|refine wg ?_|go_step|go_upon)
   refine (fL b r.k p2 x r.v r.e _ ⟨_,_,K9.out,L9.out⟩ he0 he1 hn2 ht2).mono ?_;rintro er W10 ⟨hret,⟨y10,bs10,hkk,hll⟩,hke⟩;have X10:=mB hke X9;have P10:=mB hke P9;have T10:=mB hke T9;have K10:=hU hkk;have E10:=mE hke E9;have L10:=hU hll;clear hkk hll hke;clear K9 X9 P9 T9 E9 L9;obtain ⟨er2,rfl⟩:=hret;dsimp only;refine sg ?_;intros;go_ret;rw [HB1.out,HA.out];exact ⟨rfl,⟨_,_,K10.out,L10.out⟩,E10.out⟩
 rw [ht] at HT1 HT2 hn2 ht2 he0 he1;dsimp only at HT1 HT2 hn2 ht2 he0 he1;go_in
 repeat' (first
  |(rw [hW0];clear hW0)
  |go_values|go_skip|go_guarded|refine wg ?_|go_step|go_upon)
 refine (HF.out _ L0.out.p).mono ?_;rintro er W1 ⟨rfl,hb⟩;obtain ⟨K1,X1,E1,L1⟩:=n4 hb K0 X0 E0 L0;clear K0 X0 E0 L0;clear hb kP0;dsimp only;obtain ⟨abP,hab,hab1P⟩:=nb0 E1;have habKP:=nlt K1 hab;have habXP:=nlt X1 hab;have hoffP:=L1.out.p.dJ (Nat.le_of_eq hab);obtain ⟨W2,hWn,hba,P2⟩:=nb1 (.cells zPr 121) hab;obtain ⟨K2,X2,E2,L2⟩:=n4 hba K1 X1 E1 L1;clear K1 X1 E1 L1;clear hba
 repeat' (first
  |(rw [hWn,hab];clear hWn hab)
  |(refine sN 121 (.agg p.cells) 0 p.cells aL.size P2.out (dK p) fun W3 hp=> ?_
    have E3:=pE hp E2;have L3:Hid (aH W3 y bs k):=hU (L2.out.dG (L2.out.p.dY hoffP hp) P2.out hp);have P3:=pA hp;have K3:=pT hp P2 K2;have X3:=pT hp P2 X2;clear hp;clear K2 X2 P2 E2 L2;have kXn:W3.cell? ⟨w.heap.size,0,none⟩=some (.int .u32 x.n):=aC X3.out 0)
  |go_values|go_skip|go_guarded|refine wg ?_|go_step|go_upon)
 try clear hWn hab
 refine (qOa x.n _).mono ?_;rintro er W4 ⟨rfl,hb⟩;obtain ⟨K4,X4,P4,E4,L4⟩:=n5 hb K3 X3 P3 E3 L3;clear K3 X3 P3 E3 L3;clear hb kXn;dsimp only;rw [hw];clear hw;dsimp only;obtain ⟨abT,hab,hab1T⟩:=nb0 E4;have habKT:=nlt K4 hab;have habXT:=nlt X4 hab;have habPT:=nlt P4 hab;obtain ⟨W5,hWn,hba,T5⟩:=nb1 (.cells #[.nilFunc] 224) hab;obtain ⟨K5,X5,P5,E5,L5⟩:=n5 hba K4 X4 P4 E4 L4;clear K4 X4 P4 E4 L4;clear hba
 repeat' (first
  |(rw [hWn,hab];clear hWn hab)
  |(refine sN 224 (.agg #[.nilFunc]) 0 #[.nilFunc] fM.size T5.out (by intro u hu;simp [Value.cells] at hu;subst hu;rfl) fun W6 hp=> ?_
    have E6:=pE hp E5;have L6:Hid (aH W6 y bs k):=hU (hl.kept hk0 cI E6.out);have T6:=pA hp;have K6:=pT hp T5 K5;have X6:=pT hp T5 X5;have P6:=pT hp T5 P5;clear hp;clear K5 X5 P5 T5 E5 L5)
  |go_values|go_skip|go_guarded|refine wg ?_|go_step|go_upon)
 try clear hWn hab
 have hB:eM k pid x=true:=by first|(rw [HT1.out];rfl)|(rw [HT1.out,h6];first|rfl|(rw [h16];rfl))
 have HB1:Hid (eM k pid x=true):=hU hB;have hA:=HT2.out;rw [if_pos hB] at hA;have HA:=hU hA;clear HT2 hB hA;have kXn:W6.cell? ⟨w.heap.size,0,none⟩=some (.int .u32 x.n):=aC X6.out 0;have kP8:W6.cell? ⟨b,0,none⟩=some y.p:=aC K6.out 0
 repeat' (first
  |(rw [kP8];go_simp)
  |go_values|go_skip|go_guarded|refine wg ?_|go_step|go_upon)
 refine (oK y.p k.p pid _ L6.out.p).mono ?_;rintro er W7 ⟨rfl,hb⟩;obtain ⟨K7,X7,P7,T7,E7,L7⟩:=n6 hb K6 X6 P6 T6 E6 L6;clear K6 X6 P6 T6 E6 L6;clear hb kP8 kXn;dsimp only;have hpp2:((find k.p pid).getD Proc.zero)=(find k.p p.pid).getD Proc.zero:=by rw [hpp]
 have hA:=HA.out;clear HA;obtain ⟨p2,hp2⟩:∃ p2,((find k.p pid).getD Proc.zero)=p2:=⟨_,rfl⟩
 rw [hp2] at hpp2 hA;rw [hp2];have HPP:=hU hpp2;have HA:=hU hA;clear hp2 hpp2 hA
 repeat' (first
  |(refine sN 121 (.agg p2.cells) 0 p2.cells aL.size P7.out (dK p2) fun W8 hp=> ?_
    have E8:=pE hp E7;have L8:Hid (aH W8 y bs k):=hU (L7.out.dG (SlP.qEq L7.out.p P7.out (by rw [← HPP.out];exact hp)) P7.out hp);have P8:=pA hp;have K8:=pT hp P7 K7;have X8:=pT hp P7 X7;have T8:=pT hp P7 T7;clear hp;clear K7 X7 P7 T7 E7 L7)
  |(refine aE (t:=121) (v:=.agg p2.cells) rfl rfl rfl (aD aL P8.out rfl) ?_)
  |(refine aE (t:=119) (v:=.agg x.cells) rfl rfl rfl (aD dD X8.out rfl) ?_)
  |go_values|go_skip|go_guarded|refine wg ?_|go_step|go_upon)
 refine (fL b k p2 x 0 1 _ ⟨_,_,K8.out,L8.out⟩ he0 he1 hn2 ht2).mono ?_;rintro er W9 ⟨hret,⟨y9,bs9,hkk,hll⟩,hke⟩;have X9:=mB hke X8;have P9:=mB hke P8;have T9:=mB hke T8;have K9:=hU hkk;have E9:=mE hke E8;have L9:=hU hll;clear hkk hll hke;clear K8 X8 P8 T8 E8 L8;obtain ⟨er2,rfl⟩:=hret;dsimp only;refine sg ?_;intros;go_ret;rw [HB1.out,HA.out];exact ⟨rfl,⟨_,_,K9.out,L9.out⟩,E9.out⟩
