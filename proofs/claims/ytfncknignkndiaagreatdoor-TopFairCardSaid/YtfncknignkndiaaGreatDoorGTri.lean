/- kern.pipes. Conditions: as many as Go can hold. Conditions: as told. -/
import Derived.Test.YtfncknignkndiaaGreatDoorGSeg
set_option linter.unusedVariables false
set_option maxRecDepth 100000
set_option maxHeartbeats 8000000
set_option linter.unusedSimpArgs false
namespace Go.Proofs.YtfncknignkndiaaGreatDoor
open Tryz
open Go.RowKit KR RegT3
namespace Kn
def Proc.fds (p:Proc):Array Value:=fV p.d0 p.e0 p.d1 p.e1 p.d2 p.e2 p.d3 p.e3
theorem xH (p:Proc):∀ u ∈ (Value.agg p.fds).cells.toList,u.oneCell'=true:=
 List.all_eq_true.1 (show ((Value.agg p.fds).cells.toList.all (·.oneCell'))=true from rfl)
def Proc.oC (p q:Proc):Proc:={p with d0:=q.d0,e0:=q.e0,d1:=q.d1,e1:=q.e1,d2:=q.d2,e2:=q.e2,d3:=q.d3,e3:=q.e3}
theorem qBr (p:Proc) (a b:Nat) (d d':Int) (e e':Bool):p.oC (dH (dH p a d e) b d' e')=dH (dH p a d e) b d' e':=by
 unfold dH Proc.oC;split <;> split <;> rfl
theorem qCc (p:Proc) (d:Int) (e:Bool) (w:World) (h:oF p=none):Calls prog 214 #[.agg p.fds,.agg #[.int .i64 d,.bool e]] w (aN (.tuple #[.agg p.fds,.int .i64 0,.int .i64 5]) w):=by
 have hs:=PSet p.d0 p.e0 p.d1 p.e1 p.d2 p.e2 p.d3 p.e3 d e w
 have he:xW p.d0 p.e0 p.d1 p.e1 p.d2 p.e2 p.d3 p.e3 d e=(p.fds,0,5):=by
  unfold oF at h;unfold xW Proc.fds;by_cases h0:p.d0=0
  · rw [if_pos h0] at h;cases h
  by_cases h1:p.d1=0
  · rw [if_neg h0,if_pos h1] at h;cases h
  by_cases h2:p.d2=0
  · rw [if_neg h0,if_neg h1,if_pos h2] at h;cases h
  by_cases h3:p.d3=0
  · rw [if_neg h0,if_neg h1,if_neg h2,if_pos h3] at h;cases h
  rw [if_neg h0,if_neg h1,if_neg h2,if_neg h3]
 rw [he] at hs;exact hs
theorem qCd (p:Proc) (a:Nat) (d:Int) (e:Bool) (w:World) (h:oF p=some a):Calls prog 214 #[.agg p.fds,.agg #[.int .i64 d,.bool e]] w (aN (.tuple #[.agg (dH p a d e).fds,.int .i64 (a:Int),.int .i64 0]) w):=by
 have hs:=PSet p.d0 p.e0 p.d1 p.e1 p.d2 p.e2 p.d3 p.e3 d e w
 have he:xW p.d0 p.e0 p.d1 p.e1 p.d2 p.e2 p.d3 p.e3 d e=((dH p a d e).fds,(a:Int),0):=by
  unfold oF at h;unfold xW;by_cases h0:p.d0=0
  · rw [if_pos h0] at h;injection h with h;subst h;rw [if_pos h0];rfl
  by_cases h1:p.d1=0
  · rw [if_neg h0,if_pos h1] at h;injection h with h;subst h;rw [if_neg h0,if_pos h1];rfl
  by_cases h2:p.d2=0
  · rw [if_neg h0,if_neg h1,if_pos h2] at h;injection h with h;subst h;rw [if_neg h0,if_neg h1,if_pos h2];rfl
  by_cases h3:p.d3=0
  · rw [if_neg h0,if_neg h1,if_neg h2,if_pos h3] at h;injection h with h;subst h;rw [if_neg h0,if_neg h1,if_neg h2,if_pos h3];rfl
  rw [if_neg h0,if_neg h1,if_neg h2,if_neg h3] at h;cases h
 rw [he] at hs;exact hs
theorem qQp (a c:Int):wrap64 (a + wrap64 (256 * c)) % 4294967296=(a + 256 * c) % 4294967296:=by
 unfold wrap64;omega
theorem qWd (b:Nat) (k:aI) (p:Proc) (x:Call) (w:World) (hk:cH w b k) (hn:k.p.length≤1000000) (hpl:k.aG.length≤1000000):
 Calls prog 176 #[.pointer (some ⟨b,0,none⟩),.agg p.cells,.agg x.cells] w (eN b (.tuple #[.int .u32 (aG k p).v,.int .i64 (aG k p).e]) (aG k p).k w):=by
 obtain ⟨y,bs,hk0,hl⟩:=hk;have hbl:=hlt hk0;obtain ⟨W0,hW0,K0,P0,X0,E0,L0,hz0,hzK,hzP,hzX⟩:=st2 p.cells 121 x.cells 119 hk0 hl;have kPi:W0.cell? ⟨b,4,none⟩=some y.pi:=aC K0.out 4;go_in
 repeat' (first
  |(rw [hW0];clear hW0)
  |go_values|go_skip|go_guarded|refine wg ?_|go_step|go_upon)
 refine (qYq y.pi k.aG _ L0.out.pi (by omega)).mono ?_;rintro er W1 ⟨v1,hb,hcs⟩;obtain ⟨K1,P1,X1,E1,L1⟩:=n5 hb K0 P0 X0 E0 L0;clear K0 P0 X0 E0 L0;clear hb kPi;rcases hcs with ⟨hm,hs1,rfl⟩|⟨l2,n,hm,hs1,rfl⟩
 · have HW:=hU (show aG k p=⟨k,0,5⟩ by rw [aG,hm]);clear hm hs1;dsimp only;refine sg ?_;intros;go_ret2
   rw [HW.out];exact ⟨rfl,⟨_,_,K1.out,L1.out⟩,E1.out⟩
 cases hf:oF p with
 |none=>
  have HW:=hU (show aG k p=⟨k,0,5⟩ by rw [aG,hm];simp only [hf]);have HS:=hU (fun W=> qCc p n false W hf);clear hm hf hs1;dsimp only
  repeat' (first
   |(refine aE (t:=117) (v:=.agg p.fds) rfl rfl rfl (cB jN P1.out (o:=14) rfl rfl) ?_)
   |go_values|go_skip|go_guarded|refine wg ?_|go_step|go_upon)
  refine (HS.out _).mono ?_;rintro er W2 ⟨rfl,hb⟩;obtain ⟨K2,P2,X2,E2,L2⟩:=n5 hb K1 P1 X1 E1 L1;clear K1 P1 X1 E1 L1;clear hb;dsimp only;obtain ⟨abF,hab,hab1F⟩:=nb0 E2;have habKF:=nlt K2 hab;have habPF:=nlt P2 hab;have habXF:=nlt X2 hab;obtain ⟨W3,hWn,hba,F3⟩:=nb1 (.cells #[.int .i64 0,.bool false,.int .i64 0,.bool false,.int .i64 0,.bool false,.int .i64 0,.bool false] 117) hab;obtain ⟨K3,P3,X3,E3,L3⟩:=n5 hba K2 P2 X2 E2 L2;clear K2 P2 X2 E2 L2;clear hba
  repeat' (first
   |(rw [hWn,hab];clear hWn hab)
   |(refine sN 117 (.agg p.fds) 0 p.fds jN.size F3.out (xH p) fun W4 hp=> ?_
     have E4:=pE hp E3;have L4:Hid (aH W4 y bs k):=hU (hl.kept hk0 cI E4.out);have F4:=pA hp;have K4:=pT hp F3 K3;have P4:=pT hp F3 P3;have X4:=pT hp F3 X3;clear hp;clear K3 P3 X3 F3 E3 L3)
   |go_values|go_skip|go_guarded|refine wg ?_|go_step|go_upon)
  go_ret2
  rw [HW.out];exact ⟨rfl,⟨_,_,K4.out,L4.out⟩,E4.out⟩
 |some a=>
  have HS:=hU (fun W=> qCd p a n false W hf);obtain ⟨p1,hp1⟩:∃ p1,dH p a n false=p1:=⟨_,rfl⟩
  rw [hp1] at HS;obtain ⟨ia,hia⟩:∃ ia:Int,(a:Int)=ia:=⟨_,rfl⟩
  rw [hia] at HS;have SPi1:=hU hs1;clear hs1;cases hf1:oF p1 with
  |none=>
   have HW:=hU (show aG k p=⟨k,0,5⟩ by rw [aG,hm];simp only [hf,hp1,hf1]);have HS1:=hU (fun W=> qCc p1 n true W hf1);clear hm hf hf1 hp1 hia;dsimp only
   repeat' (first
    |(refine aE (t:=117) (v:=.agg p.fds) rfl rfl rfl (cB jN P1.out (o:=14) rfl rfl) ?_)
    |go_values|go_skip|go_guarded|refine wg ?_|go_step|go_upon)
   refine (HS.out _).mono ?_;rintro er W2 ⟨rfl,hb⟩;obtain ⟨K2,P2,X2,E2,L2⟩:=n5 hb K1 P1 X1 E1 L1;have SPi2:=hU (SPi1.out.below hb);clear K1 P1 X1 E1 L1 SPi1;clear hb;dsimp only;obtain ⟨abF,hab,hab1F⟩:=nb0 E2;have habKF:=nlt K2 hab;have habPF:=nlt P2 hab;have habXF:=nlt X2 hab;obtain ⟨W3,hWn,hba,F3⟩:=nb1 (.cells #[.int .i64 0,.bool false,.int .i64 0,.bool false,.int .i64 0,.bool false,.int .i64 0,.bool false] 117) hab;obtain ⟨K3,P3,X3,E3,L3⟩:=n5 hba K2 P2 X2 E2 L2;have SPi3:=hU (SPi2.out.below hba);clear K2 P2 X2 E2 L2 SPi2;clear hba
   repeat' (first
    |(rw [hWn,hab];clear hWn hab)
    |(refine sN 117 (.agg p1.fds) 0 p1.fds jN.size F3.out (xH p1) fun W4 hp=> ?_
      have E4:=pE hp E3;have L4:Hid (aH W4 y bs k):=hU (hl.kept hk0 cI E4.out);have F4:=pA hp;have K4:=pT hp F3 K3;have P4:=pT hp F3 P3;have X4:=pT hp F3 X3;have SPi4:=hU (SPi3.out.put F3.out hp (by decide));clear hp;clear K3 P3 X3 F3 E3 L3 SPi3)
    |(refine aE (t:=117) (v:=.agg p1.fds) rfl rfl rfl (aD jN F4.out rfl) ?_)
    |go_values|go_skip|go_guarded|refine wg ?_|go_step|go_upon)
   refine (HS1.out _).mono ?_;rintro er W5 ⟨rfl,hb⟩;obtain ⟨K5,P5,X5,F5,E5,L5⟩:=n6 hb K4 P4 X4 F4 E4 L4;have SPi5:=hU (SPi4.out.below hb);clear K4 P4 X4 F4 E4 L4 SPi4;clear hb;dsimp only
   repeat' (first
    |(refine sN 117 (.agg p1.fds) 0 p1.fds jN.size F5.out (xH p1) fun W6 hp=> ?_
      have E6:=pE hp E5;have L6:Hid (aH W6 y bs k):=hU (hl.kept hk0 cI E6.out);have F6:=pA hp;have K6:=pT hp F5 K5;have P6:=pT hp F5 P5;have X6:=pT hp F5 X5;have SPi6:=hU (SPi5.out.put F5.out hp (by decide));clear hp;clear K5 P5 X5 F5 E5 L5 SPi5)
    |go_values|go_skip|go_guarded|refine wg ?_|go_step|go_upon)
   go_ret2
   rw [HW.out];exact ⟨rfl,⟨_,_,K6.out,L6.out⟩,E6.out⟩
  |some c=>
   have HS1:=hU (fun W=> qCd p1 c n true W hf1);obtain ⟨p2,hp2⟩:∃ p2,dH p1 c n true=p2:=⟨_,rfl⟩
   rw [hp2] at HS1;obtain ⟨ic,hic⟩:∃ ic:Int,(c:Int)=ic:=⟨_,rfl⟩
   rw [hic] at HS1;have HW:=hU (show aG k p=⟨{k with aG:=l2,p:=put k.p (p.oC p2)},(ia + 256 * ic) % 4294967296,0⟩ by rw [aG,hm,← hp2,← hp1,qBr,← hia,← hic];simp only [hf,hp1,hf1]);clear hm hf hf1 hp1 hp2 hia hic;dsimp only
   repeat' (first
    |(refine aE (t:=117) (v:=.agg p.fds) rfl rfl rfl (cB jN P1.out (o:=14) rfl rfl) ?_)
    |go_values|go_skip|go_guarded|refine wg ?_|go_step|go_upon)
   refine (HS.out _).mono ?_;rintro er W2 ⟨rfl,hb⟩;obtain ⟨K2,P2,X2,E2,L2⟩:=n5 hb K1 P1 X1 E1 L1;have SPi2:=hU (SPi1.out.below hb);clear K1 P1 X1 E1 L1 SPi1;clear hb;dsimp only;obtain ⟨abF,hab,hab1F⟩:=nb0 E2;have habKF:=nlt K2 hab;have habPF:=nlt P2 hab;have habXF:=nlt X2 hab;obtain ⟨W3,hWn,hba,F3⟩:=nb1 (.cells #[.int .i64 0,.bool false,.int .i64 0,.bool false,.int .i64 0,.bool false,.int .i64 0,.bool false] 117) hab;obtain ⟨K3,P3,X3,E3,L3⟩:=n5 hba K2 P2 X2 E2 L2;have SPi3:=hU (SPi2.out.below hba);clear K2 P2 X2 E2 L2 SPi2;clear hba
   repeat' (first
    |(rw [hWn,hab];clear hWn hab)
    |(refine sN 117 (.agg p1.fds) 0 p1.fds jN.size F3.out (xH p1) fun W4 hp=> ?_
      have E4:=pE hp E3;have L4:Hid (aH W4 y bs k):=hU (hl.kept hk0 cI E4.out);have F4:=pA hp;have K4:=pT hp F3 K3;have P4:=pT hp F3 P3;have X4:=pT hp F3 X3;have SPi4:=hU (SPi3.out.put F3.out hp (by decide));clear hp;clear K3 P3 X3 F3 E3 L3 SPi3)
    |(refine aE (t:=117) (v:=.agg p1.fds) rfl rfl rfl (aD jN F4.out rfl) ?_)
    |go_values|go_skip|go_guarded|refine wg ?_|go_step|go_upon)
   refine (HS1.out _).mono ?_;rintro er W5 ⟨rfl,hb⟩;obtain ⟨K5,P5,X5,F5,E5,L5⟩:=n6 hb K4 P4 X4 F4 E4 L4;have SPi5:=hU (SPi4.out.below hb);clear K4 P4 X4 F4 E4 L4 SPi4;clear hb;dsimp only
   repeat' (first
    |(refine sN 117 (.agg p2.fds) 0 p2.fds jN.size F5.out (xH p2) fun W6 hp=> ?_
      have E6:=pE hp E5;have L6:Hid (aH W6 y bs k):=hU (hl.kept hk0 cI E6.out);have F6:=pA hp;have K6:=pT hp F5 K5;have P6:=pT hp F5 P5;have X6:=pT hp F5 X5;have SPi6:=hU (SPi5.out.put F5.out hp (by decide));clear hp;clear K5 P5 X5 F5 E5 L5 SPi5)
    |(refine aE (t:=117) (v:=.agg p2.fds) rfl rfl rfl (aD jN F6.out rfl) ?_)
    |(refine sN 117 (.agg p2.fds) 14 ((p.oC p2).cells) jN.size P6.out (xH p2) fun W7 hp=> ?_
      have E7:=pE hp E6;have L7:Hid (aH W7 y bs k):=hU (hl.kept hk0 cI E7.out);have P7:=pA hp;have K7:=pT hp P6 K6;have X7:=pT hp P6 X6;have F7:=pT hp P6 F6;have SPi7:=hU (SPi6.out.put P6.out hp (by decide));clear hp;clear K6 P6 X6 F6 E6 L6 SPi6)
    |go_values|go_skip|go_guarded|refine wg ?_|go_step|go_upon)
   refine wp_region_noPanic ?_;refine go0 (S:=fun W=> (W.cell? ⟨b,0,none⟩=some y.p)∧(W.heap[w.heap.size]? =some (.cells (p.oC p2).cells 121 (0,0)))) [13,17] (⟨aC K7.out 0,P7.out⟩) fun hS=> ?_;obtain ⟨W8,hWd⟩:=exW W7.drew;obtain ⟨K8,P8,X8,F8,E8,L8⟩:=n6 (dW hWd) K7 P7 X7 F7 E7 L7;have SPi8:=dS hWd SPi7;rw [hWd] at hS ⊢;clear hWd;clear K7 P7 X7 F7 E7 L7 SPi7;refine ts [.p 0,.p 1,.p 2,.p 3,.p 4,.p 5,.p 6,.l 7] ?_;refine tv 8 (.agg (p.oC p2).cells) (fun W hSW=> aR rfl rfl (aD aL hSW.2 rfl)) ?_;(try simp only [aF])
   refine ro 9 fun K hK=> ?_;refine want rfl ?_;go_simp;refine (uV y.p k.p (p.oC p2) _ L8.out.p (by omega)).mono ?_;rintro er W9 ⟨v6,rfl,ho,hb⟩;obtain ⟨K9,P9,X9,F9,E9,L9⟩:=n6 hb K8 P8 X8 F8 E8 L8;have SPi9:=hU (SPi8.out.below hb);clear K8 P8 X8 F8 E8 L8 SPi8;clear hb;have SP9:=hU (KR.Own.sl eE ho);dsimp only;try clear hS
   refine nx hK (⟨aC K9.out 0,P9.out⟩) fun hS=> ?_;clear hK K;(try simp only [aF])
   refine ts [.p 10,.p 11,.p 12] ?_;refine ro 13 fun K hK=> ?_;refine kRs v1 4 {y with pi:=v1} {k with aG:=l2} fK K9 E9 SPi9 (L9.out.mJ SPi9.out) fun W10 hp L10 E10 K10=> ?_;have P10:=pT hp K9 P9;have X10:=pT hp K9 X9;have F10:=pT hp K9 F9;have SPi10:=hU (SPi9.out.put K9.out hp (by decide));have SP10:=hU (SP9.out.put K9.out hp (by decide));clear hp;clear K9 P9 X9 F9 E9 L9 SPi9 SP9;refine nt hK ?_;clear hK K;try clear hS
   (try simp only [aF])
   refine ts [.p 14,.p 15,.p 16] ?_;refine ro 17 fun K hK=> ?_;refine kRs v6 0 {y with pi:=v1,p:=v6} {k with aG:=l2,p:=put k.p (p.oC p2)} eY K10 E10 SP10 (L10.out.pZ SP10.out) fun W11 hp L11 E11 K11=> ?_;have P11:=pT hp K10 P10;have X11:=pT hp K10 X10;have F11:=pT hp K10 F10;have SPi11:=hU (SPi10.out.put K10.out hp (by decide));have SP11:=hU (SP10.out.put K10.out hp (by decide));clear hp;clear K10 P10 X10 F10 E10 L10 SPi10 SP10;refine nt hK ?_;clear hK K;try clear hS
   (try simp only [aF])
   refine aZ (by kernel_rfl) (NoPanic.normal ?_) _;try clear hS
   refine sg ?_;intros;go_ret2
   rw [HW.out];exact ⟨congrArg (fun z=> Ending.returned (.tuple #[.int .u32 z,.int .i64 0])) (qQp ia ic),⟨_,_,K11.out,L11.out⟩,E11.out⟩
theorem qTr (a c:Int):wrap64 (wrap64 (256 * a) + c) % 4294967296=(256 * a + c) % 4294967296:=by
 unfold wrap64;omega
theorem qZc (b:Nat) (k:aI) (p:Proc) (x:Call) (w:World) (hk:cH w b k) (hn:k.p.length≤1000000):
 Calls prog 172 #[.pointer (some ⟨b,0,none⟩),.agg p.cells,.agg x.cells] w (eN b (.tuple #[.int .u32 (wait k p).v,.int .i64 (wait k p).e]) (wait k p).k w):=by
 obtain ⟨y,bs,hk0,hl⟩:=hk;have hbl:=hlt hk0;obtain ⟨pa,pc,hpa,hpc,_⟩:=hl.p.shape;have HPA:=hU hpa;clear hpa hpc;obtain ⟨W0,hW0,K0,P0,X0,E0,L0,hz0,hzK,hzP,hzX⟩:=st2 p.cells 121 x.cells 119 hk0 hl;cases hd:dead k.p p.pid with
 |none=>
  obtain ⟨cl,hcl⟩:∃ cl,(children k.p p.pid).length=cl:=⟨_,rfl⟩
  have HCL:=hU hcl;have HW:=hU (show wait k p=if cl=0 then ⟨k,0,12⟩ else ⟨k,0,6⟩ by rw [wait,hd,← hcl];simp only [List.length_eq_zero_iff]);have HD:=hU (fun W h=> show Calls prog 211 #[.slice pa k.p.length pc,.int .i64 p.pid] W (aN (.tuple #[.int .i64 0,.bool false]) W) by have:=qUd pa pc k.p p.pid W h;rwa [hd] at this);clear hd hcl;go_in
  repeat' (first
   |(rw [hW0];clear hW0)
   |go_values|go_skip|go_guarded|refine wg ?_|go_step|go_upon)
  refine wp_region_noPanic ?_;refine go0 (S:=fun W=> (W.cell? ⟨b,0,none⟩=some (.slice pa k.p.length pc))∧(W.cell? ⟨w.heap.size,0,none⟩=some (.int .i64 p.pid))) [] (⟨((aC K0.out 0).trans (congrArg some HPA.out)),aC P0.out 0⟩) fun hS=> ?_;obtain ⟨W1,hWd⟩:=exW W0.drew;obtain ⟨K1,P1,X1,E1,L1⟩:=n5 (dW hWd) K0 P0 X0 E0 L0;rw [hWd] at hS ⊢;clear hWd;clear K0 P0 X0 E0 L0;refine ts [.p 0,.p 1,.p 2,.p 3,.l 4,.p 5,.l 6] ?_;refine ro 7 fun K hK=> ?_;refine want rfl ?_;go_simp;refine (HD.out _ (by have h:=L1.out.p;rw [HPA.out] at h;exact h)).mono ?_;rintro er W2 ⟨rfl,hb⟩;obtain ⟨K2,P2,X2,E2,L2⟩:=n5 hb K1 P1 X1 E1 L1;clear K1 P1 X1 E1 L1;clear hb;dsimp only;try clear hS
  refine nx hK (⟨((aC K2.out 0).trans (congrArg some HPA.out)),aC P2.out 0⟩) fun hS=> ?_;clear hK K;(try simp only [aF])
  refine ts [.p 8,.p 9,.p 10,.p 11,.p 12] ?_;refine aZ (by kernel_rfl) (NoPanic.normal ?_) _;try clear hS
  refine sg ?_;intros;by_cases hc:cl=0
  · have HW2:=HW.out;rw [if_pos hc] at HW2;have HW3:=hU HW2;have hcb:((cl:Int)==0)=true:=by simp [hc]
    clear HW HW2 hc;refine wp_region_noPanic ?_;refine go0 (S:=fun W=> (W.cell? ⟨b,0,none⟩=some (.slice pa k.p.length pc))∧(W.cell? ⟨w.heap.size,0,none⟩=some (.int .i64 p.pid))) [] (⟨((aC K2.out 0).trans (congrArg some HPA.out)),aC P2.out 0⟩) fun hS=> ?_;obtain ⟨W3,hWd⟩:=exW W2.drew;obtain ⟨K3,P3,X3,E3,L3⟩:=n5 (dW hWd) K2 P2 X2 E2 L2;rw [hWd] at hS ⊢;clear hWd;clear K2 P2 X2 E2 L2;refine ts [.p 0,.p 1,.p 2,.p 3,.l 4,.p 5,.l 6] ?_;refine ro 7 fun K hK=> ?_;refine want rfl ?_;go_simp;refine (qCf pa pc k.p p.pid _ (by have h:=L3.out.p;rw [HPA.out] at h;exact h) hn).mono ?_;rintro er W4 ⟨v6,rfl,hsc,hb⟩;obtain ⟨ca,cc,hv6,_,_⟩:=hsc.shape;rw [HCL.out] at hv6;subst hv6;clear hsc;obtain ⟨K4,P4,X4,E4,L4⟩:=n5 hb K3 P3 X3 E3 L3;clear K3 P3 X3 E3 L3;clear hb;dsimp only;try clear hS
    refine nx hK (⟨((aC K4.out 0).trans (congrArg some HPA.out)),aC P4.out 0⟩) fun hS=> ?_;clear hK K;(try simp only [aF])
    refine ts [.p 8,.p 9,.p 10] ?_;refine aZ (by kernel_rfl) (NoPanic.normal ?_) _;try clear hS
    refine sg ?_;intros;go_ret2
    rw [HW3.out];exact ⟨rfl,⟨_,_,K4.out,L4.out⟩,E4.out⟩
  have HW2:=HW.out;rw [if_neg hc] at HW2;have HW3:=hU HW2;have hcb:((cl:Int)==0)=false:=by simp;omega
  clear HW HW2 hc;refine wp_region_noPanic ?_;refine go0 (S:=fun W=> (W.cell? ⟨b,0,none⟩=some (.slice pa k.p.length pc))∧(W.cell? ⟨w.heap.size,0,none⟩=some (.int .i64 p.pid))) [] (⟨((aC K2.out 0).trans (congrArg some HPA.out)),aC P2.out 0⟩) fun hS=> ?_;obtain ⟨W3,hWd⟩:=exW W2.drew;obtain ⟨K3,P3,X3,E3,L3⟩:=n5 (dW hWd) K2 P2 X2 E2 L2;rw [hWd] at hS ⊢;clear hWd;clear K2 P2 X2 E2 L2;refine ts [.p 0,.p 1,.p 2,.p 3,.l 4,.p 5,.l 6] ?_;refine ro 7 fun K hK=> ?_;refine want rfl ?_;go_simp;refine (qCf pa pc k.p p.pid _ (by have h:=L3.out.p;rw [HPA.out] at h;exact h) hn).mono ?_;rintro er W4 ⟨v6,rfl,hsc,hb⟩;obtain ⟨ca,cc,hv6,_,_⟩:=hsc.shape;rw [HCL.out] at hv6;subst hv6;clear hsc;obtain ⟨K4,P4,X4,E4,L4⟩:=n5 hb K3 P3 X3 E3 L3;clear K3 P3 X3 E3 L3;clear hb;dsimp only;try clear hS
  refine nx hK (⟨((aC K4.out 0).trans (congrArg some HPA.out)),aC P4.out 0⟩) fun hS=> ?_;clear hK K;(try simp only [aF])
  refine ts [.p 8,.p 9,.p 10] ?_;refine aZ (by kernel_rfl) (NoPanic.normal ?_) _;try clear hS
  refine sg ?_;intros;go_ret2
  rw [HW3.out];exact ⟨rfl,⟨_,_,K4.out,L4.out⟩,E4.out⟩
 |some q=>
  obtain ⟨r,hr⟩:∃ r,(find k.p q.pid).getD Proc.zero=r:=⟨_,rfl⟩
  have HW:=hU (show wait k p=⟨{k with p:=remove k.p q.pid},(256 * q.pid + r.code) % 4294967296,0⟩ by rw [wait,hd,← hr]);have HD:=hU (fun W h=> show Calls prog 211 #[.slice pa k.p.length pc,.int .i64 p.pid] W (aN (.tuple #[.int .i64 q.pid,.bool true]) W) by have:=qUd pa pc k.p p.pid W h;rwa [hd] at this);have HF:=hU (fun W h=> show Calls prog 81 #[y.p,.int .i64 q.pid] W (aN (.tuple #[.agg r.cells,.bool (find k.p q.pid).isSome]) W) by rw [← hr];exact oK y.p k.p q.pid W h);clear hd hr;go_in
  repeat' (first
   |(rw [hW0];clear hW0)
   |go_values|go_skip|go_guarded|refine wg ?_|go_step|go_upon)
  refine wp_region_noPanic ?_;refine go0 (S:=fun W=> (W.cell? ⟨b,0,none⟩=some (.slice pa k.p.length pc))∧(W.cell? ⟨w.heap.size,0,none⟩=some (.int .i64 p.pid))) [] (⟨((aC K0.out 0).trans (congrArg some HPA.out)),aC P0.out 0⟩) fun hS=> ?_;obtain ⟨W1,hWd⟩:=exW W0.drew;obtain ⟨K1,P1,X1,E1,L1⟩:=n5 (dW hWd) K0 P0 X0 E0 L0;rw [hWd] at hS ⊢;clear hWd;clear K0 P0 X0 E0 L0;refine ts [.p 0,.p 1,.p 2,.p 3,.l 4,.p 5,.l 6] ?_;refine ro 7 fun K hK=> ?_;refine want rfl ?_;go_simp;refine (HD.out _ (by have h:=L1.out.p;rw [HPA.out] at h;exact h)).mono ?_;rintro er W2 ⟨rfl,hb⟩;obtain ⟨K2,P2,X2,E2,L2⟩:=n5 hb K1 P1 X1 E1 L1;clear K1 P1 X1 E1 L1;clear hb;dsimp only;try clear hS
  refine nx hK (⟨((aC K2.out 0).trans (congrArg some HPA.out)),aC P2.out 0⟩) fun hS=> ?_;clear hK K;(try simp only [aF])
  refine ts [.p 8,.p 9,.p 10,.p 11,.p 12] ?_;refine aZ (by kernel_rfl) (NoPanic.normal ?_) _;try clear hS
  have kP1:W2.cell? ⟨b,0,none⟩=some y.p:=aC K2.out 0;refine sg ?_;intros;refine (HF.out _ L2.out.p).mono ?_;rintro er W3 ⟨rfl,hb⟩;obtain ⟨K3,P3,X3,E3,L3⟩:=n5 hb K2 P2 X2 E2 L2;clear K2 P2 X2 E2 L2;clear hb kP1;dsimp only;obtain ⟨abR,hab,hab1R⟩:=nb0 E3;have habKR:=nlt K3 hab;have habPR:=nlt P3 hab;have habXR:=nlt X3 hab;have hoffR:=L3.out.p.dJ (Nat.le_of_eq hab);obtain ⟨W4,hWn,hba,R4⟩:=nb1 (.cells zPr 121) hab;obtain ⟨K4,P4,X4,E4,L4⟩:=n5 hba K3 P3 X3 E3 L3;clear K3 P3 X3 E3 L3;clear hba
  repeat' (first
   |(rw [hWn,hab];clear hWn hab)
   |(refine sN 121 (.agg r.cells) 0 r.cells aL.size R4.out (dK r) fun W5 hp=> ?_
     have E5:=pE hp E4;have L5:Hid (aH W5 y bs k):=hU (L4.out.dG (L4.out.p.dY hoffR hp) R4.out hp);have R5:=pA hp;have K5:=pT hp R4 K4;have P5:=pO hp P4;have X5:=pT hp R4 X4;clear hp;clear K4 P4 X4 R4 E4 L4)
   |go_values|go_skip|go_guarded|refine wg ?_|go_step|go_upon)
  try clear hWn hab
  have kP2:W5.cell? ⟨b,0,none⟩=some y.p:=aC K5.out 0
  repeat' (first
   |(rw [kP2];go_simp)
   |go_values|go_skip|go_guarded|refine wg ?_|go_step|go_upon)
  refine (qDp y.p k.p q.pid _ L5.out.p (by omega)).mono ?_;rintro er W6 ⟨vz,rfl,ho,hb⟩;obtain ⟨K6,P6,X6,R6,E6,L6⟩:=n6 hb K5 P5 X5 R5 E5 L5;clear K5 P5 X5 R5 E5 L5;have SZ6:=hU (KR.Own.sl eE ho);clear hb ho kP2;dsimp only
  repeat' (first
   |(refine kSs 26 vz 0 {y with p:=vz} {k with p:=remove k.p q.pid} eY K6 E6 SZ6 (L6.out.pZ SZ6.out) fun W7 hp L7 E7 K7=> ?_
     have P7:=pT hp K6 P6;have X7:=pT hp K6 X6;have R7:=pT hp K6 R6;have SZ7:=hU (SZ6.out.put K6.out hp (by decide));clear hp;clear K6 P6 X6 R6 E6 L6 SZ6)
   |go_values|go_skip|go_guarded|refine wg ?_|go_step|go_upon)
  have kR:W7.cell? ⟨abR,13,none⟩=some (.int .i64 r.code):=aC R7.out 13;have zR:=hlt R7.out;have fR:=hfro R7.out 13
  repeat' (first
   |(rw [kR];go_simp)
   |go_values|go_skip|go_guarded|refine wg ?_|go_step|go_upon)
  go_ret2
  rw [HW.out];exact ⟨congrArg (fun z=> Ending.returned (.tuple #[.int .u32 z,.int .i64 0])) (qTr q.pid r.code),⟨_,_,K7.out,L7.out⟩,E7.out⟩
end Kn
end Go.Proofs.YtfncknignkndiaaGreatDoor
namespace Go.Proofs.YtfncknignkndiaaGreatDoor
open Tryz
open Go.RowKit KR
namespace Kn
def sL (n:Int):Value × Bool:=
 if n=4 then (.func (.func 172) #[] #[],true) else
 if n=6 then (.func (.func 173) #[] #[],true) else
 if n=9 then (.func (.func 174) #[] #[],true) else
 if n=10 then (.func (.func 175) #[] #[],true) else
 if n=11 then (.func (.func 176) #[] #[],true) else
 if n=12 then (.func (.func 177) #[] #[],true) else
 if n=13 then (.func (.func 178) #[] #[],true) else
 if n=14 then (.func (.func 179) #[] #[],true) else
 if n=15 then (.func (.func 180) #[] #[],true) else
 if n=16 then (.func (.func 181) #[] #[],true) else (.nilFunc,false)
theorem fM:Agg prog 224 1:=gD underlying224 rfl (by kernel_rfl)
theorem xAi:sL 4=(.func (.func 172) #[] #[],true):=rfl
theorem xAj:sL 6=(.func (.func 173) #[] #[],true):=rfl
theorem xAk:sL 9=(.func (.func 174) #[] #[],true):=rfl
theorem qXv:sL 10=(.func (.func 175) #[] #[],true):=rfl
theorem qXw:sL 11=(.func (.func 176) #[] #[],true):=rfl
theorem qXx:sL 12=(.func (.func 177) #[] #[],true):=rfl
theorem qXy:sL 13=(.func (.func 178) #[] #[],true):=rfl
theorem qXz:sL 14=(.func (.func 179) #[] #[],true):=rfl
theorem qYa:sL 15=(.func (.func 180) #[] #[],true):=rfl
theorem qYb:sL 16=(.func (.func 181) #[] #[],true):=rfl
theorem qQk {n:Int} (h4:n ≠ 4) (h6:n ≠ 6) (h9:n ≠ 9) (h10:n ≠ 10) (h11:n ≠ 11) (h12:n ≠ 12) (h13:n ≠ 13) (h14:n ≠ 14) (h15:n ≠ 15) (h16:n ≠ 16):sL n=(.nilFunc,false):=by
 unfold sL;rw [if_neg h4,if_neg h6,if_neg h9,if_neg h10,if_neg h11,if_neg h12,if_neg h13,if_neg h14,if_neg h15,if_neg h16]
theorem qOa (n:Int) (w:World):Calls prog 127 #[.int .u32 n] w (aN (.tuple #[.agg #[(sL n).1],.bool (sL n).2]) w):=by
 have q0:=fZ w (.cells #[.nilFunc] 224);have hb0:Below w.heap.size w (w.alloc (.cells #[.nilFunc] 224)):=bel;obtain ⟨W0,hW0⟩:∃ W0,(w.alloc (.cells #[.nilFunc] 224))=W0:=⟨_,rfl⟩
 rw [hW0] at q0 hb0;have HQ:=hU q0;have HB:=hU hb0;clear q0 hb0;by_cases h4:n=4
 · subst h4;rw [xAi];dsimp only;go_in
   repeat' (first
    |(rw [hW0];clear hW0)
    |(refine sN 224 (.agg #[(.func (.func 172) #[] #[])]) 0 #[(.func (.func 172) #[] #[])] fM.size HQ.out (by intro u hu;simp [Value.cells] at hu;subst hu;rfl) fun W1 hp=> ?_)
    |go_values|go_skip|go_guarded|refine wg ?_|go_step|go_upon)
   (try simp only [Exit.inBlock,Exit.then]);refine bodyPost_ret (aT results127 fM rfl hp.at_ rfl) rfl ?_
   exact ⟨rfl,Below.put HB.out hp (Nat.le_refl _)⟩
 by_cases h6:n=6
 · subst h6;rw [xAj];dsimp only;go_in
   repeat' (first
    |(rw [hW0];clear hW0)
    |(refine sN 224 (.agg #[(.func (.func 173) #[] #[])]) 0 #[(.func (.func 173) #[] #[])] fM.size HQ.out (by intro u hu;simp [Value.cells] at hu;subst hu;rfl) fun W1 hp=> ?_)
    |go_values|go_skip|go_guarded|refine wg ?_|go_step|go_upon)
   (try simp only [Exit.inBlock,Exit.then]);refine bodyPost_ret (aT results127 fM rfl hp.at_ rfl) rfl ?_
   exact ⟨rfl,Below.put HB.out hp (Nat.le_refl _)⟩
 by_cases h9:n=9
 · subst h9;rw [xAk];dsimp only;go_in
   repeat' (first
    |(rw [hW0];clear hW0)
    |(refine sN 224 (.agg #[(.func (.func 174) #[] #[])]) 0 #[(.func (.func 174) #[] #[])] fM.size HQ.out (by intro u hu;simp [Value.cells] at hu;subst hu;rfl) fun W1 hp=> ?_)
    |go_values|go_skip|go_guarded|refine wg ?_|go_step|go_upon)
   (try simp only [Exit.inBlock,Exit.then]);refine bodyPost_ret (aT results127 fM rfl hp.at_ rfl) rfl ?_
   exact ⟨rfl,Below.put HB.out hp (Nat.le_refl _)⟩
 by_cases h10:n=10
 · subst h10;rw [qXv];dsimp only;go_in
   repeat' (first
    |(rw [hW0];clear hW0)
    |(refine sN 224 (.agg #[(.func (.func 175) #[] #[])]) 0 #[(.func (.func 175) #[] #[])] fM.size HQ.out (by intro u hu;simp [Value.cells] at hu;subst hu;rfl) fun W1 hp=> ?_)
    |go_values|go_skip|go_guarded|refine wg ?_|go_step|go_upon)
   (try simp only [Exit.inBlock,Exit.then]);refine bodyPost_ret (aT results127 fM rfl hp.at_ rfl) rfl ?_
   exact ⟨rfl,Below.put HB.out hp (Nat.le_refl _)⟩
 by_cases h11:n=11
 · subst h11;rw [qXw];dsimp only;go_in
   repeat' (first
    |(rw [hW0];clear hW0)
    |(refine sN 224 (.agg #[(.func (.func 176) #[] #[])]) 0 #[(.func (.func 176) #[] #[])] fM.size HQ.out (by intro u hu;simp [Value.cells] at hu;subst hu;rfl) fun W1 hp=> ?_)
    |go_values|go_skip|go_guarded|refine wg ?_|go_step|go_upon)
   (try simp only [Exit.inBlock,Exit.then]);refine bodyPost_ret (aT results127 fM rfl hp.at_ rfl) rfl ?_
   exact ⟨rfl,Below.put HB.out hp (Nat.le_refl _)⟩
 by_cases h12:n=12
 · subst h12;rw [qXx];dsimp only;go_in
   repeat' (first
    |(rw [hW0];clear hW0)
    |(refine sN 224 (.agg #[(.func (.func 177) #[] #[])]) 0 #[(.func (.func 177) #[] #[])] fM.size HQ.out (by intro u hu;simp [Value.cells] at hu;subst hu;rfl) fun W1 hp=> ?_)
    |go_values|go_skip|go_guarded|refine wg ?_|go_step|go_upon)
   (try simp only [Exit.inBlock,Exit.then]);refine bodyPost_ret (aT results127 fM rfl hp.at_ rfl) rfl ?_
   exact ⟨rfl,Below.put HB.out hp (Nat.le_refl _)⟩
 by_cases h13:n=13
 · subst h13;rw [qXy];dsimp only;go_in
   repeat' (first
    |(rw [hW0];clear hW0)
    |(refine sN 224 (.agg #[(.func (.func 178) #[] #[])]) 0 #[(.func (.func 178) #[] #[])] fM.size HQ.out (by intro u hu;simp [Value.cells] at hu;subst hu;rfl) fun W1 hp=> ?_)
    |go_values|go_skip|go_guarded|refine wg ?_|go_step|go_upon)
   (try simp only [Exit.inBlock,Exit.then]);refine bodyPost_ret (aT results127 fM rfl hp.at_ rfl) rfl ?_
   exact ⟨rfl,Below.put HB.out hp (Nat.le_refl _)⟩
 by_cases h14:n=14
 · subst h14;rw [qXz];dsimp only;go_in
   repeat' (first
    |(rw [hW0];clear hW0)
    |(refine sN 224 (.agg #[(.func (.func 179) #[] #[])]) 0 #[(.func (.func 179) #[] #[])] fM.size HQ.out (by intro u hu;simp [Value.cells] at hu;subst hu;rfl) fun W1 hp=> ?_)
    |go_values|go_skip|go_guarded|refine wg ?_|go_step|go_upon)
   (try simp only [Exit.inBlock,Exit.then]);refine bodyPost_ret (aT results127 fM rfl hp.at_ rfl) rfl ?_
   exact ⟨rfl,Below.put HB.out hp (Nat.le_refl _)⟩
 by_cases h15:n=15
 · subst h15;rw [qYa];dsimp only;go_in
   repeat' (first
    |(rw [hW0];clear hW0)
    |(refine sN 224 (.agg #[(.func (.func 180) #[] #[])]) 0 #[(.func (.func 180) #[] #[])] fM.size HQ.out (by intro u hu;simp [Value.cells] at hu;subst hu;rfl) fun W1 hp=> ?_)
    |go_values|go_skip|go_guarded|refine wg ?_|go_step|go_upon)
   (try simp only [Exit.inBlock,Exit.then]);refine bodyPost_ret (aT results127 fM rfl hp.at_ rfl) rfl ?_
   exact ⟨rfl,Below.put HB.out hp (Nat.le_refl _)⟩
 by_cases h16:n=16
 · subst h16;rw [qYb];dsimp only;go_in
   repeat' (first
    |(rw [hW0];clear hW0)
    |(refine sN 224 (.agg #[(.func (.func 181) #[] #[])]) 0 #[(.func (.func 181) #[] #[])] fM.size HQ.out (by intro u hu;simp [Value.cells] at hu;subst hu;rfl) fun W1 hp=> ?_)
    |go_values|go_skip|go_guarded|refine wg ?_|go_step|go_upon)
   (try simp only [Exit.inBlock,Exit.then]);refine bodyPost_ret (aT results127 fM rfl hp.at_ rfl) rfl ?_
   exact ⟨rfl,Below.put HB.out hp (Nat.le_refl _)⟩
 rw [qQk h4 h6 h9 h10 h11 h12 h13 h14 h15 h16];dsimp only;have g4:(n==4)=false:=by simp [h4]
 have g6:(n==6)=false:=by simp [h6]
 have g9:(n==9)=false:=by simp [h9]
 have g10:(n==10)=false:=by simp [h10]
 have g11:(n==11)=false:=by simp [h11]
 have g12:(n==12)=false:=by simp [h12]
 have g13:(n==13)=false:=by simp [h13]
 have g14:(n==14)=false:=by simp [h14]
 have g15:(n==15)=false:=by simp [h15]
 have g16:(n==16)=false:=by simp [h16]
 go_in
 repeat' (first
  |(rw [hW0];clear hW0)
  |(refine sN 224 (.agg #[.nilFunc]) 0 #[.nilFunc] fM.size HQ.out (by intro u hu;simp [Value.cells] at hu;subst hu;rfl) fun W1 hp=> ?_)
  |go_values|go_skip|go_guarded|refine wg ?_|go_step|go_upon)
 (try simp only [Exit.inBlock,Exit.then]);refine bodyPost_ret (aT results127 fM rfl hp.at_ rfl) rfl ?_
 exact ⟨rfl,Below.put HB.out hp (Nat.le_refl _)⟩
end Kn
end Go.Proofs.YtfncknignkndiaaGreatDoor
namespace Go.Proofs.YtfncknignkndiaaGreatDoor
open Tryz
open Go.RowKit KR RegT3
namespace Kn
theorem qPo (a:Int) (W:World) (g:Nat) (h:W.heap[g]? =some (.cells #[.int .u8 (IntKind.u8.wrap a)] 5 (0,0))):(convert 262 9 (.slice (some ⟨g,0,none⟩) 1 1)).run prog W=.ok (.string (lQ a)) W:=by
 refine run_convert_bytes_back (P:=prog) _ _ _ 5 ⟨g,0,none⟩ 1 [UInt8.ofNat (a % 256).toNat] underlying262 underlying5 underlying9 fun j hj=> ?_;have hj0:j=0:=by simp at hj;exact hj
 subst hj0
 have hv:((UInt8.ofNat (a % 256).toNat).toNat:Int)=IntKind.u8.wrap a:=by
  rw [UInt8.toNat_ofNat'];show ((((a % 256).toNat % 256:Nat)):Int)=a % 256
  omega
 show W.cell? ⟨g,0,none⟩=some (.int .u8 ((UInt8.ofNat (a % 256).toNat).toNat:Int))
 rw [hv];exact aC h 0
theorem WPid (b:Nat) (k:aI) (p:Proc) (x:Call) (w:World) (hk:cH w b k):
 Calls prog 173 #[.pointer (some ⟨b,0,none⟩),.agg p.cells,.agg x.cells] w (eN b (.tuple #[.int .u32 ((⟨k,p.pid % 4294967296,0⟩:iA)).v,.int .i64 ((⟨k,p.pid % 4294967296,0⟩:iA)).e]) ((⟨k,p.pid % 4294967296,0⟩:iA)).k w):=by
 obtain ⟨y,bs,hk0,hl⟩:=hk;have hbl:=hlt hk0;obtain ⟨W0,hW0,K0,P0,X0,E0,L0,hz0,hzK,hzP,hzX⟩:=st2 p.cells 121 x.cells 119 hk0 hl;have kP:W0.cell? ⟨w.heap.size,0,none⟩=some (.int .i64 p.pid):=aC P0.out 0;go_in
 repeat' (first
  |(rw [hW0];clear hW0)
  |go_values|go_skip|go_guarded|refine wg ?_|go_step|go_upon)
 go_ret2
 exact ⟨rfl,⟨_,_,K0.out,L0.out⟩,E0.out⟩
theorem qZb (b:Nat) (k:aI) (p:Proc) (x:Call) (w:World) (hk:cH w b k):
 Calls prog 174 #[.pointer (some ⟨b,0,none⟩),.agg p.cells,.agg x.cells] w (eN b (.tuple #[.int .u32 ((⟨k,k.now % 4294967296,0⟩:iA)).v,.int .i64 ((⟨k,k.now % 4294967296,0⟩:iA)).e]) ((⟨k,k.now % 4294967296,0⟩:iA)).k w):=by
 obtain ⟨y,bs,hk0,hl⟩:=hk;have hbl:=hlt hk0;obtain ⟨W0,hW0,K0,P0,X0,E0,L0,hz0,hzK,hzP,hzX⟩:=st2 p.cells 121 x.cells 119 hk0 hl;have kN:W0.cell? ⟨b,7,none⟩=some (.int .u64 k.now):=aC K0.out 7;go_in
 repeat' (first
  |(rw [hW0];clear hW0)
  |go_values|go_skip|go_guarded|refine wg ?_|go_step|go_upon)
 go_ret2
 exact ⟨rfl,⟨_,_,K0.out,L0.out⟩,E0.out⟩
theorem qZa (b:Nat) (k:aI) (p:Proc) (x:Call) (w:World) (hk:cH w b k) (hcs:k.cons.size≤1000000000):
 Calls prog 175 #[.pointer (some ⟨b,0,none⟩),.agg p.cells,.agg x.cells] w (eN b (.tuple #[.int .u32 ((⟨{k with cons:=k.cons ++ lQ x.a},0,0⟩:iA)).v,.int .i64 ((⟨{k with cons:=k.cons ++ lQ x.a},0,0⟩:iA)).e]) ((⟨{k with cons:=k.cons ++ lQ x.a},0,0⟩:iA)).k w):=by
 obtain ⟨y,bs,hk0,hl⟩:=hk;have hbl:=hlt hk0;obtain ⟨W0,hW0,K0,P0,X0,E0,L0,hz0,hzK,hzP,hzX⟩:=st2 p.cells 121 x.cells 119 hk0 hl;go_in
 repeat' (first
  |(rw [hW0];clear hW0)
  |go_values|go_skip|go_guarded|refine wg ?_|go_step|go_upon)
 refine wp_region_noPanic ?_;refine go0 (S:=fun W=> (W.cell? ⟨b,12,none⟩=some (.string k.cons))∧(W.cell? ⟨w.heap.size + 1,1,none⟩=some (.int .u32 x.a))) [14] (⟨aC K0.out 12,aC X0.out 1⟩) fun hS=> ?_;obtain ⟨W1,hWd⟩:=exW W0.drew;obtain ⟨K1,P1,X1,E1,L1⟩:=n5 (dW hWd) K0 P0 X0 E0 L0;rw [hWd] at hS ⊢;clear hWd;clear K0 P0 X0 E0 L0;refine ts [.p 0,.p 1,.p 2,.p 3,.l 4,.p 5,.l 6,.p 7] ?_;refine ro 8 fun K hK=> ?_;go_simp;obtain ⟨W2,hWn,hba,hnw⟩:=nb2 W1 (.cells #[.int .u8 (IntKind.u8.wrap x.a)] 5);rw [hWn];clear hWn;obtain ⟨K2,P2,X2,E2,L2⟩:=n5 hba K1 P1 X1 E1 L1;clear K1 P1 X1 E1 L1;clear hba;try clear hS
 refine nx hK (⟨aC K2.out 12,aC X2.out 1⟩) fun hS=> ?_;clear hK K;(try simp only [aF])
 have HC:=qPo x.a W2 W1.heap.size hnw;refine ro 9 fun K hK=> ?_;go_simp;clear HC;try clear hS
 refine nx hK (⟨aC K2.out 12,aC X2.out 1⟩) fun hS=> ?_;clear hK K;(try simp only [aF])
 have hlen:¬ (9223372036854775807<k.cons.size + (lQ x.a).size):=by rw [show (lQ x.a).size=1 from rfl];omega
 refine ro 10 fun K hK=> ?_;go_simp;try clear hS
 refine nx hK (⟨aC K2.out 12,aC X2.out 1⟩) fun hS=> ?_;clear hK K;(try simp only [aF])
 refine ts [.p 11,.p 12,.p 13] ?_;refine ro 14 fun K hK=> ?_;refine kR (.string (k.cons ++ lQ x.a)) 12 y {k with cons:=k.cons ++ lQ x.a} pI K2 E2 (L2.out.qKk (k.cons ++ lQ x.a)) fun W3 hp L3 E3 K3=> ?_;have P3:=pT hp K2 P2;have X3:=pT hp K2 X2;clear hp;clear K2 P2 X2 E2 L2;refine nt hK ?_;clear hK K;try clear hS
 (try simp only [aF])
 refine aZ (by kernel_rfl) (NoPanic.normal ?_) _;try clear hS
 refine sg ?_;intros;go_ret2
 exact ⟨rfl,⟨_,_,K3.out,L3.out⟩,E3.out⟩
