/- work.goes: an instruction of the process whose turn it is. Conditions: as told. -/
import Derived.Test.YtfncknignkndiaaGreatDoorGAsks
import Derived.Test.YtfncknignkndiaaGreatDoorGGood
set_option linter.unusedVariables false
set_option maxRecDepth 100000
set_option maxHeartbeats 8000000
set_option linter.unusedSimpArgs false
namespace Go.Proofs.YtfncknignkndiaaGreatDoor
open Tryz
open Go.RowKit KR RegT3
namespace Kn
theorem qJo:∀ (rs:List Int) (pc:Int),rs.length=8→Cp.oE rs pc=.agg (eX (rs.getD 0 0) (rs.getD 1 0) (rs.getD 2 0) (rs.getD 3 0) (rs.getD 4 0) (rs.getD 5 0) (rs.getD 6 0) (rs.getD 7 0) pc)
 |[_,_,_,_,_,_,_,_],_,_=> rfl
def tD (s:Cp.St):Array Value:=eX (s.rs.getD 0 0) (s.rs.getD 1 0) (s.rs.getD 2 0) (s.rs.getD 3 0) (s.rs.getD 4 0) (s.rs.getD 5 0) (s.rs.getD 6 0) (s.rs.getD 7 0) s.pc
theorem sH (a b c d e f g i j:Int):∀ u ∈ (Value.agg (eX a b c d e f g i j)).cells.toList,u.oneCell'=true:=by
 intro u hu;simp [Value.cells,eX] at hu;rcases hu with rfl|rfl|rfl|rfl|rfl|rfl|rfl|rfl|rfl <;> rfl
theorem qNc {p:Proc} (h:lU p) (hm:p.mem.size=64) (W:World) (hT:Tab W):Calls prog 85 #[.agg (eX p.r0 p.r1 p.r2 p.r3 p.r4 p.r5 p.r6 p.r7 p.pc),.string p.mem] W (aN (.tuple #[.agg (tD (aO p)),.string (aO p).m,.int .i64 (aO p).t]) W):=by
 have hk:Go.Proofs.YtfncknignkndiaaGreatDoor.Kept [p.r0,p.r1,p.r2,p.r3,p.r4,p.r5,p.r6,p.r7] p.pc p.mem (aO p):=qDe h.rs h.pc.1 h.pc.2 p.mem;have this:Calls prog 85 #[Cp.oE [p.r0,p.r1,p.r2,p.r3,p.r4,p.r5,p.r6,p.r7] p.pc,.string p.mem] W (aN (.tuple #[Cp.oE (aO p).rs (aO p).pc,.string (aO p).m,.int .i64 (aO p).t]) W):=qNv [p.r0,p.r1,p.r2,p.r3,p.r4,p.r5,p.r6,p.r7] p.pc p.mem W h.rs h.pc.1 h.pc.2 (by omega) hT;rw [qJo _ _ rfl,qJo (aO p).rs (aO p).pc hk.words.1] at this;exact this
theorem Tab.kept {w W:World} (h:Tab w) {b:Nat} {k:aI} (hk:cH w b k) (hke:KR.Kept b w W):Tab W:=by
 obtain ⟨y,bs,hb,hl⟩:=hk
 have hne:0 ≠ b:=fun he=> by
  have h0:=h 0 (by decide);have e:w.cell? ⟨0,0,none⟩=w.cell? ⟨b,0,none⟩:=congrArg (fun z=> w.cell? ⟨z,0,none⟩) he;rw [e,aC hb 0] at h0;obtain ⟨a,c,hp,_⟩:=hl.p.shape
  have:(aJ y k)[0]? =some y.p:=rfl
  rw [this,hp] at h0;cases h0
 intro j hj;have e:=hke.block 0 h.lt hne;have:=h j hj
 unfold World.cell? at this ⊢;rw [e];exact this
theorem qVy (b:Nat) (k:aI) (w:World) (hk:cH w b k) (hT:Tab w) (k0:aI) (a:Nat) (hbd:Bd k0) (hi:Inv [] k) (hto:Told a k0 k) (ha:a≤100) (hwt:k.want=0) (ht:k.t.l=[]):
 Calls prog 40 #[.pointer (some ⟨b,0,none⟩)] w (oY b (k) w):=by
 have hf:=hbd.fit hi hto (by omega);have hTW:=hU (fun W (h:KR.Kept b w W)=> Tab.kept hT hk h);obtain ⟨y,bs,hk0,hl⟩:=hk;have hbl:=hlt hk0;have K0:Hid (w.heap[b]? =some (.cells (aJ y k) 104 (0,0))):=hU hk0;have E0:Hid (KR.Kept b w w):=hU (KR.Kept.refl b w);have L0:=hU hl;have hz0:=Nat.le_refl w.heap.size;have hzK:=hlt hk0;clear hT;have kT1:w.cell? ⟨b,1,none⟩=some y.t:=aC K0.out 1;have kT2:w.cell? ⟨b,2,none⟩=some (.int .i64 k.t.left):=aC K0.out 2;have HFT:=hU hf;clear hf;go_in;refine sg ?_;intros;refine (qJe _ k.t _ ⟨y.t,rfl,L0.out.t⟩).mono ?_;rintro er W1 ⟨rfl,hb⟩;obtain ⟨K1,E1,L1⟩:=n3 hb K0 E0 L0;clear K0 E0 L0;clear hb kT1 kT2;dsimp only;rw [ht];dsimp only [List.head?_nil,Option.getD_none,Option.isSome_none];refine sg ?_;intros;go_end0
 exact ⟨⟨_,rfl⟩,⟨_,_,K1.out,L1.out⟩,E1.out⟩
theorem qVz (b:Nat) (k:aI) (w:World) (hk:cH w b k) (hT:Tab w) (k0:aI) (a:Nat) (hbd:Bd k0) (hi:Inv [] k) (hto:Told a k0 k) (ha:a≤100) (hwt:k.want=0) (pid:Int) (r:List Int) (ht:k.t.l=pid::r) (p:Proc) (hp:p ∈ k.p) (hpid:p.pid=pid) (h1:p.st=1) (h0:(aO p).t=0):
 Calls prog 40 #[.pointer (some ⟨b,0,none⟩)] w (oY b ({{k with p:=put k.p (p.aU (aO p))} with t:=gO k.t}) w):=by
 have HWT:=hU hwt;clear hwt;have hpw:=hi.tab.wd p hp;have hmem:=hi.tab.mem p hp;have HCS:=hU (fun W h=> qNc hpw hmem W h);have HFD:Hid (find k.p pid=some p):=hU (gQ hi.tab.so hp hpid);have hf:=hbd.fit hi hto (by omega);have hTW:=hU (fun W (h:KR.Kept b w W)=> Tab.kept hT hk h);obtain ⟨y,bs,hk0,hl⟩:=hk;have hbl:=hlt hk0;have K0:Hid (w.heap[b]? =some (.cells (aJ y k) 104 (0,0))):=hU hk0;have E0:Hid (KR.Kept b w w):=hU (KR.Kept.refl b w);have L0:=hU hl;have hz0:=Nat.le_refl w.heap.size;have hzK:=hlt hk0;clear hT;have kT1:w.cell? ⟨b,1,none⟩=some y.t:=aC K0.out 1;have kT2:w.cell? ⟨b,2,none⟩=some (.int .i64 k.t.left):=aC K0.out 2;have HFT:=hU hf;clear hf;go_in;refine sg ?_;intros;refine (qJe _ k.t _ ⟨y.t,rfl,L0.out.t⟩).mono ?_;rintro er W1 ⟨rfl,hb⟩;obtain ⟨K1,E1,L1⟩:=n3 hb K0 E0 L0;clear K0 E0 L0;clear hb kT1 kT2;dsimp only;have hhd:k.t.l.head?.getD 0=pid:=by rw [ht];rfl
 have hsm:k.t.l.head?.isSome=true:=by rw [ht];rfl
 rw [hhd,hsm];clear hhd hsm;have kP:W1.cell? ⟨b,0,none⟩=some y.p:=aC K1.out 0;refine sg ?_;intros;refine (oK y.p k.p pid _ L1.out.p).mono ?_;rw [HFD.out];dsimp only [Option.getD_some,Option.isSome_some];rintro er W2 ⟨rfl,hb⟩;obtain ⟨K2,E2,L2⟩:=n3 hb K1 E1 L1;clear K1 E1 L1;clear hb kP;dsimp only;obtain ⟨abP,hab,hab1P⟩:=nb0 E2;have habKP:=nlt K2 hab;have hoffP:=L2.out.p.dJ (Nat.le_of_eq hab);obtain ⟨W3,hWn,hba,P3⟩:=nb1 (.cells zPr 121) hab;obtain ⟨K3,E3,L3⟩:=n3 hba K2 E2 L2;clear K2 E2 L2;clear hba
 repeat' (first
  |(rw [hWn,hab];clear hWn hab)
  |(refine sN 121 (.agg p.cells) 0 p.cells aL.size P3.out (dK p) fun W4 hp=> ?_
    have E4:=pE hp E3;have L4:Hid (aH W4 y bs k):=hU (L3.out.dG (L3.out.p.dY hoffP hp) P3.out hp);have P4:=pA hp;have K4:=pT hp P3 K3;clear hp;clear K3 P3 E3 L3;have kM:W4.cell? ⟨abP,12,none⟩=some (.string p.mem):=aC P4.out 12)
  |(refine aE (t:=114) (v:=.agg (eX p.r0 p.r1 p.r2 p.r3 p.r4 p.r5 p.r6 p.r7 p.pc)) rfl rfl rfl (cB gT P4.out rfl rfl) ?_)
  |go_values|go_skip|go_guarded|refine wg ?_|go_step|go_upon)
 try clear hWn hab
 refine (HCS.out _ (hTW.out _ E4.out)).mono ?_;rintro er W5 ⟨rfl,hb⟩;obtain ⟨K5,P5,E5,L5⟩:=n4 hb K4 P4 E4 L4;clear K4 P4 E4 L4;clear hb kM HCS;dsimp only;generalize hs:aO p=s at h0 ⊢;rw [h0];obtain ⟨abC,hab,hab1C⟩:=nb0 E5;have habKC:=nlt K5 hab;have habPC:=nlt P5 hab;obtain ⟨W6,hWn,hba,C6⟩:=nb1 (.cells #[.int .u32 0,.int .u32 0,.int .u32 0,.int .u32 0,.int .u32 0,.int .u32 0,.int .u32 0,.int .u32 0,.int .u32 0] 114) hab;obtain ⟨K6,P6,E6,L6⟩:=n4 hba K5 P5 E5 L5;clear K5 P5 E5 L5;clear hba
 repeat' (first
  |(rw [hWn,hab];clear hWn hab)
  |(refine sN 114 (.agg (tD s)) 0 (tD s) gT.size C6.out (sH _ _ _ _ _ _ _ _ _) fun W7 hp=> ?_
    have E7:=pE hp E6;have L7:Hid (aH W7 y bs k):=hU (hl.kept hk0 cI E7.out);have C7:=pA hp;have K7:=pT hp C6 K6;have P7:=pT hp C6 P6;clear hp;clear K6 P6 C6 E6 L6)
  |(refine aE (t:=114) (v:=.agg (tD s)) rfl rfl rfl (aD gT C7.out rfl) ?_)
  |(refine sN 114 (.agg (tD s)) 3 (({p with r0:=s.rs.getD 0 0,r1:=s.rs.getD 1 0,r2:=s.rs.getD 2 0,r3:=s.rs.getD 3 0,r4:=s.rs.getD 4 0,r5:=s.rs.getD 5 0,r6:=s.rs.getD 6 0,r7:=s.rs.getD 7 0,pc:=s.pc}:Proc).cells) gT.size P7.out (sH _ _ _ _ _ _ _ _ _) fun W8 hp=> ?_
    have E8:=pE hp E7;have L8:Hid (aH W8 y bs k):=hU (L7.out.dG (L7.out.p.dY hoffP hp) P7.out hp);have P8:=pA hp;have K8:=pT hp P7 K7;have C8:=pT hp P7 C7;clear hp;clear K7 P7 C7 E7 L7)
  |(refine aP (t:=9) (v:=.string s.m) (off:=12) (new:=(p.aU s).cells) rfl rfl rfl rfl pI P8.out rfl rfl (show 12 + 1≤26 by decide) rfl ?_;intro W9 hp
    have E9:=pE hp E8;have L9:Hid (aH W9 y bs k):=hU (L8.out.dG (L8.out.p.dY hoffP hp) P8.out hp);have P9:=pA hp;have K9:=pT hp P8 K8;have C9:=pT hp P8 C8;clear hp;clear K8 P8 C8 E8 L8)
  |go_values|go_skip|go_guarded|refine wg ?_|go_step|go_upon)
 try clear hWn hab
 refine wp_region_noPanic ?_;refine go0 (S:=fun W=> (W.cell? ⟨b,0,none⟩=some y.p)∧(W.heap[abP]? =some (.cells (p.aU s).cells 121 (0,0)))) [11] (⟨aC K9.out 0,P9.out⟩) fun hS=> ?_;obtain ⟨W10,hWd⟩:=exW W9.drew;obtain ⟨K10,P10,C10,E10,L10⟩:=n5 (dW hWd) K9 P9 C9 E9 L9;rw [hWd] at hS ⊢;clear hWd;clear K9 P9 C9 E9 L9;refine ts [.p 0,.p 1,.p 2,.p 3,.p 4,.l 5] ?_;refine tv 6 (.agg (p.aU s).cells) (fun W hSW=> aR rfl rfl (aD aL hSW.2 rfl)) ?_;(try simp only [aF])
 refine ro 7 fun K hK=> ?_;refine want rfl ?_;go_simp;refine (uV y.p k.p (p.aU s) _ L10.out.p (by have:=HFT.out.n;omega)).mono ?_;rintro er W11 ⟨v6,rfl,ho,hb⟩;obtain ⟨K11,P11,C11,E11,L11⟩:=n5 hb K10 P10 C10 E10 L10;clear K10 P10 C10 E10 L10;clear hb;have SP11:=hU (KR.Own.sl eE ho);dsimp only;try clear hS
 refine nx hK (⟨aC K11.out 0,P11.out⟩) fun hS=> ?_;clear hK K;(try simp only [aF])
 refine ts [.p 8,.p 9,.p 10] ?_;refine ro 11 fun K hK=> ?_;refine kRs v6 0 {y with p:=v6} {k with p:=put k.p (p.aU s)} eY K11 E11 SP11 (L11.out.pZ SP11.out) fun W12 hp L12 E12 K12=> ?_;have P12:=pT hp K11 P11;have C12:=pT hp K11 C11;have SP12:=hU (SP11.out.put K11.out hp (by decide));clear hp;clear K11 P11 C11 E11 L11 SP11;refine nt hK ?_;clear hK K;try clear hS
 (try simp only [aF])
 refine aZ (by kernel_rfl) (NoPanic.normal ?_) _;try clear hS
 clear SP12;have kT1:W12.cell? ⟨b,1,none⟩=some {y with p:=v6}.t:=aC K12.out 1;have kT2:W12.cell? ⟨b,2,none⟩=some (.int .i64 k.t.left):=aC K12.out 2;refine sg ?_;intros;have e1:k.t.l.length≤8589934592:=Nat.le_trans HFT.out.t (by decide);have e3:qC W12 (.agg #[{y with p:=v6}.t,.int .i64 k.t.left]) k.t:=⟨_,rfl,L12.out.t⟩
 have e4:=qNy _ k.t _ e3 e1 HFT.out.tl;refine e4.mono ?_;rintro er W13 ⟨v7,rfl,⟨u7,rfl,ht7⟩,hb⟩;clear e1 e3 e4;obtain ⟨K13,P13,C13,E13,L13⟩:=n5 hb K12 P12 C12 E12 L12;clear K12 P12 C12 E12 L12;clear hb kT1 kT2;have ST13:=hU ht7;clear ht7;dsimp only
 repeat' (first
  |(refine sN 29 (.agg #[u7,.int .i64 ((gO k.t)).left]) 1 (aJ {{y with p:=v6} with t:=u7} {{k with p:=put k.p (p.aU s)} with t:=gO k.t}) cM.size K13.out (uK ST13.out) fun W14 hp=> ?_
    have L14:Hid (aH W14 {{y with p:=v6} with t:=u7} bs {{k with p:=put k.p (p.aU s)} with t:=gO k.t}):=hU ((L13.out.setT ST13.out).put K13.out cI hp);have E14:=pK hp E13;have K14:Hid (W14.heap[b]? =some (.cells (aJ {{y with p:=v6} with t:=u7} {{k with p:=put k.p (p.aU s)} with t:=gO k.t}) 104 (0,0))):=pA hp;have P14:=pT hp K13 P13;have C14:=pT hp K13 C13;have ST14:=hU (ST13.out.put K13.out hp (by decide));clear hp;clear K13 P13 C13 E13 L13 ST13)
  |go_values|go_skip|go_guarded|refine wg ?_|go_step|go_upon)
 clear ST14;refine sg ?_;intros;go_end0
 subst hs;exact ⟨⟨_,rfl⟩,⟨_,_,K14.out,L14.out⟩,E14.out⟩
theorem qWa (b:Nat) (k:aI) (w:World) (hk:cH w b k) (hT:Tab w) (k0:aI) (a:Nat) (hbd:Bd k0) (hi:Inv [] k) (hto:Told a k0 k) (ha:a≤100) (hwt:k.want=0) (pid:Int) (r:List Int) (ht:k.t.l=pid::r) (p:Proc) (hp:p ∈ k.p) (hpid:p.pid=pid) (h1:p.st=1) (h0:(aO p).t=3):
 Calls prog 40 #[.pointer (some ⟨b,0,none⟩)] w (oY b (if dF {k with p:=put k.p (p.aU (aO p))} (p.aU (aO p)) (p.aU (aO p)).from_=true then {asks {k with p:=put k.p (p.aU (aO p))} (p.aU (aO p)) (p.aU (aO p)).from_ with t:=gO (asks {k with p:=put k.p (p.aU (aO p))} (p.aU (aO p)) (p.aU (aO p)).from_).t} else asks {k with p:=put k.p (p.aU (aO p))} (p.aU (aO p)) (p.aU (aO p)).from_) w):=by
 have HWT:=hU hwt;clear hwt;have hpw:=hi.tab.wd p hp;have hmem:=hi.tab.mem p hp;have HCS:=hU (fun W h=> qNc hpw hmem W h);have HFD:Hid (find k.p pid=some p):=hU (gQ hi.tab.so hp hpid);obtain ⟨hi1,ht1,hfd,hcw⟩:=hi.qKo hp h1;have hf:=hbd.fit hi hto (by omega);have hTW:=hU (fun W (h:KR.Kept b w W)=> Tab.kept hT hk h);obtain ⟨y,bs,hk0,hl⟩:=hk;have hbl:=hlt hk0;have K0:Hid (w.heap[b]? =some (.cells (aJ y k) 104 (0,0))):=hU hk0;have E0:Hid (KR.Kept b w w):=hU (KR.Kept.refl b w);have L0:=hU hl;have hz0:=Nat.le_refl w.heap.size;have hzK:=hlt hk0;clear hT;have kT1:w.cell? ⟨b,1,none⟩=some y.t:=aC K0.out 1;have kT2:w.cell? ⟨b,2,none⟩=some (.int .i64 k.t.left):=aC K0.out 2;have HFT:=hU hf;clear hf;go_in;refine sg ?_;intros;refine (qJe _ k.t _ ⟨y.t,rfl,L0.out.t⟩).mono ?_;rintro er W1 ⟨rfl,hb⟩;obtain ⟨K1,E1,L1⟩:=n3 hb K0 E0 L0;clear K0 E0 L0;clear hb kT1 kT2;dsimp only;have hhd:k.t.l.head?.getD 0=pid:=by rw [ht];rfl
 have hsm:k.t.l.head?.isSome=true:=by rw [ht];rfl
 rw [hhd,hsm];clear hhd hsm;have kP:W1.cell? ⟨b,0,none⟩=some y.p:=aC K1.out 0;refine sg ?_;intros;refine (oK y.p k.p pid _ L1.out.p).mono ?_;rw [HFD.out];dsimp only [Option.getD_some,Option.isSome_some];rintro er W2 ⟨rfl,hb⟩;obtain ⟨K2,E2,L2⟩:=n3 hb K1 E1 L1;clear K1 E1 L1;clear hb kP;dsimp only;obtain ⟨abP,hab,hab1P⟩:=nb0 E2;have habKP:=nlt K2 hab;have hoffP:=L2.out.p.dJ (Nat.le_of_eq hab);obtain ⟨W3,hWn,hba,P3⟩:=nb1 (.cells zPr 121) hab;obtain ⟨K3,E3,L3⟩:=n3 hba K2 E2 L2;clear K2 E2 L2;clear hba
 repeat' (first
  |(rw [hWn,hab];clear hWn hab)
  |(refine sN 121 (.agg p.cells) 0 p.cells aL.size P3.out (dK p) fun W4 hp=> ?_
    have E4:=pE hp E3;have L4:Hid (aH W4 y bs k):=hU (L3.out.dG (L3.out.p.dY hoffP hp) P3.out hp);have P4:=pA hp;have K4:=pT hp P3 K3;clear hp;clear K3 P3 E3 L3;have kM:W4.cell? ⟨abP,12,none⟩=some (.string p.mem):=aC P4.out 12)
  |(refine aE (t:=114) (v:=.agg (eX p.r0 p.r1 p.r2 p.r3 p.r4 p.r5 p.r6 p.r7 p.pc)) rfl rfl rfl (cB gT P4.out rfl rfl) ?_)
  |go_values|go_skip|go_guarded|refine wg ?_|go_step|go_upon)
 try clear hWn hab
 refine (HCS.out _ (hTW.out _ E4.out)).mono ?_;rintro er W5 ⟨rfl,hb⟩;obtain ⟨K5,P5,E5,L5⟩:=n4 hb K4 P4 E4 L4;clear K4 P4 E4 L4;clear hb kM HCS;dsimp only;generalize hs:aO p=s at h0 hi1 ht1 hfd hcw ⊢;rw [h0];obtain ⟨abC,hab,hab1C⟩:=nb0 E5;have habKC:=nlt K5 hab;have habPC:=nlt P5 hab;obtain ⟨W6,hWn,hba,C6⟩:=nb1 (.cells #[.int .u32 0,.int .u32 0,.int .u32 0,.int .u32 0,.int .u32 0,.int .u32 0,.int .u32 0,.int .u32 0,.int .u32 0] 114) hab;obtain ⟨K6,P6,E6,L6⟩:=n4 hba K5 P5 E5 L5;clear K5 P5 E5 L5;clear hba
 repeat' (first
  |(rw [hWn,hab];clear hWn hab)
  |(refine sN 114 (.agg (tD s)) 0 (tD s) gT.size C6.out (sH _ _ _ _ _ _ _ _ _) fun W7 hp=> ?_
    have E7:=pE hp E6;have L7:Hid (aH W7 y bs k):=hU (hl.kept hk0 cI E7.out);have C7:=pA hp;have K7:=pT hp C6 K6;have P7:=pT hp C6 P6;clear hp;clear K6 P6 C6 E6 L6)
  |(refine aE (t:=114) (v:=.agg (tD s)) rfl rfl rfl (aD gT C7.out rfl) ?_)
  |(refine sN 114 (.agg (tD s)) 3 (({p with r0:=s.rs.getD 0 0,r1:=s.rs.getD 1 0,r2:=s.rs.getD 2 0,r3:=s.rs.getD 3 0,r4:=s.rs.getD 4 0,r5:=s.rs.getD 5 0,r6:=s.rs.getD 6 0,r7:=s.rs.getD 7 0,pc:=s.pc}:Proc).cells) gT.size P7.out (sH _ _ _ _ _ _ _ _ _) fun W8 hp=> ?_
    have E8:=pE hp E7;have L8:Hid (aH W8 y bs k):=hU (L7.out.dG (L7.out.p.dY hoffP hp) P7.out hp);have P8:=pA hp;have K8:=pT hp P7 K7;have C8:=pT hp P7 C7;clear hp;clear K7 P7 C7 E7 L7)
  |(refine aP (t:=9) (v:=.string s.m) (off:=12) (new:=(p.aU s).cells) rfl rfl rfl rfl pI P8.out rfl rfl (show 12 + 1≤26 by decide) rfl ?_;intro W9 hp
    have E9:=pE hp E8;have L9:Hid (aH W9 y bs k):=hU (L8.out.dG (L8.out.p.dY hoffP hp) P8.out hp);have P9:=pA hp;have K9:=pT hp P8 K8;have C9:=pT hp P8 C8;clear hp;clear K8 P8 C8 E8 L8)
  |go_values|go_skip|go_guarded|refine wg ?_|go_step|go_upon)
 try clear hWn hab
 refine wp_region_noPanic ?_;refine go0 (S:=fun W=> (W.cell? ⟨b,0,none⟩=some y.p)∧(W.heap[abP]? =some (.cells (p.aU s).cells 121 (0,0)))) [11] (⟨aC K9.out 0,P9.out⟩) fun hS=> ?_;obtain ⟨W10,hWd⟩:=exW W9.drew;obtain ⟨K10,P10,C10,E10,L10⟩:=n5 (dW hWd) K9 P9 C9 E9 L9;rw [hWd] at hS ⊢;clear hWd;clear K9 P9 C9 E9 L9;refine ts [.p 0,.p 1,.p 2,.p 3,.p 4,.l 5] ?_;refine tv 6 (.agg (p.aU s).cells) (fun W hSW=> aR rfl rfl (aD aL hSW.2 rfl)) ?_;(try simp only [aF])
 refine ro 7 fun K hK=> ?_;refine want rfl ?_;go_simp;refine (uV y.p k.p (p.aU s) _ L10.out.p (by have:=HFT.out.n;omega)).mono ?_;rintro er W11 ⟨v6,rfl,ho,hb⟩;obtain ⟨K11,P11,C11,E11,L11⟩:=n5 hb K10 P10 C10 E10 L10;clear K10 P10 C10 E10 L10;clear hb;have SP11:=hU (KR.Own.sl eE ho);dsimp only;try clear hS
 refine nx hK (⟨aC K11.out 0,P11.out⟩) fun hS=> ?_;clear hK K;(try simp only [aF])
 refine ts [.p 8,.p 9,.p 10] ?_;refine ro 11 fun K hK=> ?_;refine kRs v6 0 {y with p:=v6} {k with p:=put k.p (p.aU s)} eY K11 E11 SP11 (L11.out.pZ SP11.out) fun W12 hp L12 E12 K12=> ?_;have P12:=pT hp K11 P11;have C12:=pT hp K11 C11;have SP12:=hU (SP11.out.put K11.out hp (by decide));clear hp;clear K11 P11 C11 E11 L11 SP11;refine nt hK ?_;clear hK K;try clear hS
 (try simp only [aF])
 refine aZ (by kernel_rfl) (NoPanic.normal ?_) _;try clear hS
 clear SP12;refine sg ?_;intros;have HI1:=hU hi1;have HF1:=hU (hbd.fit hi1 (hto.trans ht1) (by omega));have HFD1:=hU hfd;have HCW:=hU hcw;clear hi1 ht1 hfd hcw;refine wp_region_noPanic ?_;refine go0 (S:=fun W=> (W.heap[abP]? =some (.cells (p.aU s).cells 121 (0,0)))∧(W.heap[abC]? =some (.cells (tD s) 114 (0,0)))) [4] (⟨P12.out,C12.out⟩) fun hS=> ?_;obtain ⟨W13,hWd⟩:=exW W12.drew;obtain ⟨K13,P13,C13,E13,L13⟩:=n5 (dW hWd) K12 P12 C12 E12 L12;rw [hWd] at hS ⊢;clear hWd;clear K12 P12 C12 E12 L12;refine tp 0 ?_;try simp only [aF]
 refine tv 1 (.agg (p.aU s).cells) (fun W hSW=> aR rfl rfl (aD aL hSW.1 rfl)) ?_;(try simp only [aF])
 refine tv 2 (.agg (tD s)) (fun W hSW=> aR rfl rfl (aD gT hSW.2 rfl)) ?_;(try simp only [aF])
 refine ro 3 fun K hK=> ?_;refine want rfl ?_;go_simp;refine (qYj _ _ _ _ _ _ _ _ _ _).mono ?_;rintro er W14 ⟨rfl,hb⟩;obtain ⟨K14,P14,C14,E14,L14⟩:=n5 hb K13 P13 C13 E13 L13;clear K13 P13 C13 E13 L13;clear hb;dsimp only;try clear hS
 refine nx hK (⟨P14.out,C14.out⟩) fun hS=> ?_;clear hK K;(try simp only [aF])
 refine ro 4 fun K hK=> ?_;refine want rfl ?_;go_simp;refine (qYy b {k with p:=put k.p (p.aU s)} (p.aU s) (p.aU s).from_ _ ⟨_,_,K14.out,L14.out⟩ HF1.out (qLk HCW.out) HFD1.out (by have:=HWT.out;show _≤k.want;omega) (by have:=HWT.out;show k.want≤_;omega)).mono ?_;rintro er W15 ⟨hret,⟨y15,bs15,hkk,hll⟩,hke⟩;have P15:=mB hke P14;have C15:=mB hke C14;have K15:=hU hkk;have E15:=mE hke E14;have L15:=hU hll;clear hkk hll hke;clear K14 P14 C14 E14 L14;subst hret;dsimp only;refine nt hK ?_;clear hK K;try clear hS
 (try simp only [aF])
 refine tp 5 ?_;try simp only [aF]
 refine aZ (by kernel_rfl) (NoPanic.normal ?_) _;try clear hS
 cases hab:dF {k with p:=put k.p (p.aU s)} (p.aU s) (p.aU s).from_
 · have HAB:=hU hab;clear hab;refine sg ?_;intros;go_end0
   subst hs;rw [if_neg (by rw [HAB.out];decide)];exact ⟨⟨_,rfl⟩,⟨_,_,K15.out,L15.out⟩,E15.out⟩
 have HAB:=hU hab;clear hab;have HA:=hU (HI1.out.asks (p:=(p.aU s)) (by exact List.mem_of_find?_eq_some HFD1.out) h1 HCW.out).inv;have hal:=HA.out.tn.len;have hn6:=HA.out.n6;have htl:=HA.out.tl;have kT1:W15.cell? ⟨b,1,none⟩=some y15.t:=aC K15.out 1;have kT2:W15.cell? ⟨b,2,none⟩=some (.int .i64 (asks {k with p:=put k.p (p.aU s)} (p.aU s) (p.aU s).from_).t.left):=aC K15.out 2;refine sg ?_;intros;have e1:(asks {k with p:=put k.p (p.aU s)} (p.aU s) (p.aU s).from_).t.l.length≤8589934592:=(by omega)
 have e3:qC W15 (.agg #[y15.t,.int .i64 (asks {k with p:=put k.p (p.aU s)} (p.aU s) (p.aU s).from_).t.left]) (asks {k with p:=put k.p (p.aU s)} (p.aU s) (p.aU s).from_).t:=⟨_,rfl,L15.out.t⟩
 have e4:=qNy _ (asks {k with p:=put k.p (p.aU s)} (p.aU s) (p.aU s).from_).t _ e3 e1 ⟨by omega,by omega⟩;refine e4.mono ?_;rintro er W16 ⟨v7,rfl,⟨u7,rfl,ht7⟩,hb⟩;clear e1 e3 e4;obtain ⟨K16,P16,C16,E16,L16⟩:=n5 hb K15 P15 C15 E15 L15;clear K15 P15 C15 E15 L15;clear hb kT1 kT2;have ST16:=hU ht7;clear ht7;dsimp only
 repeat' (first
  |(refine sN 29 (.agg #[u7,.int .i64 ((gO (asks {k with p:=put k.p (p.aU s)} (p.aU s) (p.aU s).from_).t)).left]) 1 (aJ {y15 with t:=u7} {asks {k with p:=put k.p (p.aU s)} (p.aU s) (p.aU s).from_ with t:=gO (asks {k with p:=put k.p (p.aU s)} (p.aU s) (p.aU s).from_).t}) cM.size K16.out (uK ST16.out) fun W17 hp=> ?_
    have L17:Hid (aH W17 {y15 with t:=u7} bs15 {asks {k with p:=put k.p (p.aU s)} (p.aU s) (p.aU s).from_ with t:=gO (asks {k with p:=put k.p (p.aU s)} (p.aU s) (p.aU s).from_).t}):=hU ((L16.out.setT ST16.out).put K16.out cI hp);have E17:=pK hp E16;have K17:Hid (W17.heap[b]? =some (.cells (aJ {y15 with t:=u7} {asks {k with p:=put k.p (p.aU s)} (p.aU s) (p.aU s).from_ with t:=gO (asks {k with p:=put k.p (p.aU s)} (p.aU s) (p.aU s).from_).t}) 104 (0,0))):=pA hp;have P17:=pT hp K16 P16;have C17:=pT hp K16 C16;have ST17:=hU (ST16.out.put K16.out hp (by decide));clear hp;clear K16 P16 C16 E16 L16 ST16)
  |go_values|go_skip|go_guarded|refine wg ?_|go_step|go_upon)
 clear ST17;refine sg ?_;intros;go_end0
 subst hs;rw [if_pos HAB.out];exact ⟨⟨_,rfl⟩,⟨_,_,K17.out,L17.out⟩,E17.out⟩
theorem qWb (b:Nat) (k:aI) (w:World) (hk:cH w b k) (hT:Tab w) (k0:aI) (a:Nat) (hbd:Bd k0) (hi:Inv [] k) (hto:Told a k0 k) (ha:a≤100) (hwt:k.want=0) (pid:Int) (r:List Int) (ht:k.t.l=pid::r) (p:Proc) (hp:p ∈ k.p) (hpid:p.pid=pid) (h1:p.st=1) (h0:(aO p).t=1∨(aO p).t=2):
 Calls prog 40 #[.pointer (some ⟨b,0,none⟩)] w (oY b (ends k pid (128 + (aO p).t) (aO p).t) w):=by
 have HWT:=hU hwt;clear hwt;have hpw:=hi.tab.wd p hp;have hmem:=hi.tab.mem p hp;have HCS:=hU (fun W h=> qNc hpw hmem W h);have HFD:Hid (find k.p pid=some p):=hU (gQ hi.tab.so hp hpid);have hf:=hbd.fit hi hto (by omega);have hTW:=hU (fun W (h:KR.Kept b w W)=> Tab.kept hT hk h);obtain ⟨y,bs,hk0,hl⟩:=hk;have hbl:=hlt hk0;have K0:Hid (w.heap[b]? =some (.cells (aJ y k) 104 (0,0))):=hU hk0;have E0:Hid (KR.Kept b w w):=hU (KR.Kept.refl b w);have L0:=hU hl;have hz0:=Nat.le_refl w.heap.size;have hzK:=hlt hk0;clear hT;have kT1:w.cell? ⟨b,1,none⟩=some y.t:=aC K0.out 1;have kT2:w.cell? ⟨b,2,none⟩=some (.int .i64 k.t.left):=aC K0.out 2;have HFT:=hU hf;clear hf;go_in;refine sg ?_;intros;refine (qJe _ k.t _ ⟨y.t,rfl,L0.out.t⟩).mono ?_;rintro er W1 ⟨rfl,hb⟩;obtain ⟨K1,E1,L1⟩:=n3 hb K0 E0 L0;clear K0 E0 L0;clear hb kT1 kT2;dsimp only;have hhd:k.t.l.head?.getD 0=pid:=by rw [ht];rfl
 have hsm:k.t.l.head?.isSome=true:=by rw [ht];rfl
 rw [hhd,hsm];clear hhd hsm;have kP:W1.cell? ⟨b,0,none⟩=some y.p:=aC K1.out 0;refine sg ?_;intros;refine (oK y.p k.p pid _ L1.out.p).mono ?_;rw [HFD.out];dsimp only [Option.getD_some,Option.isSome_some];rintro er W2 ⟨rfl,hb⟩;obtain ⟨K2,E2,L2⟩:=n3 hb K1 E1 L1;clear K1 E1 L1;clear hb kP;dsimp only;obtain ⟨abP,hab,hab1P⟩:=nb0 E2;have habKP:=nlt K2 hab;have hoffP:=L2.out.p.dJ (Nat.le_of_eq hab);obtain ⟨W3,hWn,hba,P3⟩:=nb1 (.cells zPr 121) hab;obtain ⟨K3,E3,L3⟩:=n3 hba K2 E2 L2;clear K2 E2 L2;clear hba
 repeat' (first
  |(rw [hWn,hab];clear hWn hab)
  |(refine sN 121 (.agg p.cells) 0 p.cells aL.size P3.out (dK p) fun W4 hp=> ?_
    have E4:=pE hp E3;have L4:Hid (aH W4 y bs k):=hU (L3.out.dG (L3.out.p.dY hoffP hp) P3.out hp);have P4:=pA hp;have K4:=pT hp P3 K3;clear hp;clear K3 P3 E3 L3;have kM:W4.cell? ⟨abP,12,none⟩=some (.string p.mem):=aC P4.out 12)
  |(refine aE (t:=114) (v:=.agg (eX p.r0 p.r1 p.r2 p.r3 p.r4 p.r5 p.r6 p.r7 p.pc)) rfl rfl rfl (cB gT P4.out rfl rfl) ?_)
  |go_values|go_skip|go_guarded|refine wg ?_|go_step|go_upon)
 try clear hWn hab
 refine (HCS.out _ (hTW.out _ E4.out)).mono ?_;rintro er W5 ⟨rfl,hb⟩;obtain ⟨K5,P5,E5,L5⟩:=n4 hb K4 P4 E4 L4;clear K4 P4 E4 L4;clear hb kM HCS;dsimp only;generalize hs:aO p=s at h0 ⊢;obtain ⟨tt,htt⟩:∃ tt,s.t=tt:=⟨_,rfl⟩
 rw [htt] at h0 ⊢;have g0:(tt==0)=false:=by rcases h0 with h|h <;> rw [h] <;> rfl
 have g3:(tt==3)=false:=by rcases h0 with h|h <;> rw [h] <;> rfl
 have gw:IntKind.i64.wrap (128 + tt)=128 + tt:=by rcases h0 with h|h <;> rw [h] <;> rfl
 obtain ⟨abC,hab,hab1C⟩:=nb0 E5;have habKC:=nlt K5 hab;have habPC:=nlt P5 hab;obtain ⟨W6,hWn,hba,C6⟩:=nb1 (.cells #[.int .u32 0,.int .u32 0,.int .u32 0,.int .u32 0,.int .u32 0,.int .u32 0,.int .u32 0,.int .u32 0,.int .u32 0] 114) hab;obtain ⟨K6,P6,E6,L6⟩:=n4 hba K5 P5 E5 L5;clear K5 P5 E5 L5;clear hba
 repeat' (first
  |(rw [hWn,hab];clear hWn hab)
  |(refine sN 114 (.agg (tD s)) 0 (tD s) gT.size C6.out (sH _ _ _ _ _ _ _ _ _) fun W7 hp=> ?_
    have E7:=pE hp E6;have L7:Hid (aH W7 y bs k):=hU (hl.kept hk0 cI E7.out);have C7:=pA hp;have K7:=pT hp C6 K6;have P7:=pT hp C6 P6;clear hp;clear K6 P6 C6 E6 L6)
  |(refine aE (t:=114) (v:=.agg (tD s)) rfl rfl rfl (aD gT C7.out rfl) ?_)
  |(refine sN 114 (.agg (tD s)) 3 (({p with r0:=s.rs.getD 0 0,r1:=s.rs.getD 1 0,r2:=s.rs.getD 2 0,r3:=s.rs.getD 3 0,r4:=s.rs.getD 4 0,r5:=s.rs.getD 5 0,r6:=s.rs.getD 6 0,r7:=s.rs.getD 7 0,pc:=s.pc}:Proc).cells) gT.size P7.out (sH _ _ _ _ _ _ _ _ _) fun W8 hp=> ?_
    have E8:=pE hp E7;have L8:Hid (aH W8 y bs k):=hU (L7.out.dG (L7.out.p.dY hoffP hp) P7.out hp);have P8:=pA hp;have K8:=pT hp P7 K7;have C8:=pT hp P7 C7;clear hp;clear K7 P7 C7 E7 L7)
  |(refine aP (t:=9) (v:=.string s.m) (off:=12) (new:=(p.aU s).cells) rfl rfl rfl rfl pI P8.out rfl rfl (show 12 + 1≤26 by decide) rfl ?_;intro W9 hp
    have E9:=pE hp E8;have L9:Hid (aH W9 y bs k):=hU (L8.out.dG (L8.out.p.dY hoffP hp) P8.out hp);have P9:=pA hp;have K9:=pT hp P8 K8;have C9:=pT hp P8 C8;clear hp;clear K8 P8 C8 E8 L8)
  |go_values|go_skip|go_guarded|refine wg ?_|go_step|go_upon)
 try clear hWn hab
 refine (qOg b k pid (128 + tt) tt _ ⟨_,_,K9.out,L9.out⟩ (by have:=HFT.out.n;omega) HFT.out.t HFT.out.a HFT.out.pl HFT.out.pb HFT.out.hl (by omega) (by omega)).mono ?_;rintro er W10 ⟨hret,⟨y10,bs10,hkk,hll⟩,hke⟩;have P10:=mB hke P9;have C10:=mB hke C9;have K10:=hU hkk;have E10:=mE hke E9;have L10:=hU hll;clear hkk hll hke;clear K9 P9 C9 E9 L9;obtain ⟨er2,rfl⟩:=hret;dsimp only;refine sg ?_;intros;go_end0
 subst htt;subst hs;exact ⟨⟨_,rfl⟩,⟨_,_,K10.out,L10.out⟩,E10.out⟩
theorem qYz (b:Nat) (k:aI) (w:World) (hk:cH w b k) (hT:Tab w) (k0:aI) (a:Nat) (hbd:Bd k0) (hi:Inv [] k) (hto:Told a k0 k) (ha:a≤100) (hwt:k.want=0):
 Calls prog 40 #[.pointer (some ⟨b,0,none⟩)] w (oY b (goes k) w):=by
 cases ht:k.t.l with
 |nil=>
  have hg:goes k=k:=by rw [goes,ht]
  rw [hg];exact qVy b k w hk hT k0 a hbd hi hto ha hwt ht
 |cons pid r=>
  obtain ⟨p,hp,hpid,h1⟩:=(hi.tn.2 pid).1 (by rw [ht];exact List.mem_cons_self);have hf:find k.p pid=some p:=gQ hi.tab.so hp hpid;rw [goes,ht];dsimp only;rw [hf];dsimp only [Option.getD_some];rcases tM (hi.tab.wd p hp) with ⟨_,_,_,hst⟩|hbad
  · by_cases h0:(aO p).t=0
    · rw [if_pos h0];exact qVz b k w hk hT k0 a hbd hi hto ha hwt pid r ht p hp hpid h1 h0
    · rw [if_neg h0];by_cases h3:(aO p).t=3
      · rw [if_pos h3];exact qWa b k w hk hT k0 a hbd hi hto ha hwt pid r ht p hp hpid h1 h3
      · rw [if_neg h3];exact qWb b k w hk hT k0 a hbd hi hto ha hwt pid r ht p hp hpid h1 (by omega)
  · exact absurd (hi.tab.mem p hp) hbad
