/- isa.Take and transomref01.Take: the instruction of a word. Conditions: as told. -/
import Derived.Test.YtfncknignkndiaaGreatDoorGCpDo
import Derived.Test.YtfncknignkndiaaGreatDoorCpuDoesC
import Derived.Test.YtfncknignkndiaaGreatDoorProg
import Derived.KernelRfl
set_option linter.unusedVariables false
set_option maxRecDepth 100000
set_option maxHeartbeats 8000000
set_option linter.unusedSimpArgs false
namespace Go.Proofs.YtfncknignkndiaaGreatDoor
open Tryz
open Go.RowKit
theorem qWv {o o' a a' b b' i i' e e':Int} (ho:o=o') (ha:a=a') (hb:b=b') (hi:i=i') (he:e=e'):
 Value.tuple #[.agg #[.int .i64 o,.int .i64 a,.int .i64 b,.int .i64 i],.int .i64 e]=.tuple #[.agg #[.int .i64 o',.int .i64 a',.int .i64 b',.int .i64 i'],.int .i64 e']:=by rw [ho,ha,hb,hi,he]
def oA (x:Int):Value:=if Cp.qW x then .tuple #[.agg #[.int .i64 (Cp.opOf x),.int .i64 (Cp.aOf x),.int .i64 (Cp.bOf x),.int .i64 (Cp.qL x)],.int .i64 0]
 else .tuple #[.agg #[.int .i64 0,.int .i64 0,.int .i64 0,.int .i64 0],.int .i64 11]
theorem qDj {x:Int} (h:Cp.qW x=true):oA x=.tuple #[.agg #[.int .i64 (Cp.opOf x),.int .i64 (Cp.aOf x),.int .i64 (Cp.bOf x),.int .i64 (Cp.qL x)],.int .i64 0]:=if_pos h
theorem qGx {x:Int} (h:Cp.qW x=false):oA x=.tuple #[.agg #[.int .i64 0,.int .i64 0,.int .i64 0,.int .i64 0],.int .i64 11]:=if_neg (by simp [h])
namespace Take
theorem qUf {y:Int} (h0:0≤y) (h1:y<4294967296):wrap64 (bits BinOp.and IntKind.u32 y 15)=y % 16:=by
 obtain ⟨n,rfl⟩:=Int.eq_ofNat_of_zero_le h0;have e:=u32_and_nat n 15 (by omega) (by omega);rw [nat_mask4] at e;rw [show (15:Int)=((15:Nat):Int) from rfl,e];unfold wrap64;omega
theorem qZp {x:Int} (h0:0≤x) (h1:x<4294967296):wrap64 (IntKind.i16.wrap (IntKind.u16.wrap x))=Cp.qL x:=by
 rw [IntKind.wrap_u16];have e:IntKind.i16.wrap (x % 65536)=(x % 65536 + 32768) % 65536 - 32768:=by simp [IntKind.wrap,IntKind.bits,IntKind.signed];omega
 rw [e];unfold wrap64 Cp.qL Cp.qUo;split <;> omega
theorem any (x:Int) (w:World) (h0:0≤x) (h1:x<4294967296) (hT:Tab w):
 Calls prog 129 #[.int .u32 x] w (aN (oA x) w):=by
 have eA:=qUf (show 0≤x / 1048576 by omega) (by omega);have eB:=qUf (show 0≤x / 65536 by omega) (by omega);have eI:=qZp h0 h1;have HA:=hU eA;have HB:=hU eB;have HI:=hU eI
 have hm:Cp.may (x / 16777216) (wrap64 (bits BinOp.and IntKind.u32 (x / 1048576) 15)) (wrap64 (bits BinOp.and IntKind.u32 (x / 65536) 15)) (wrap64 (IntKind.i16.wrap (IntKind.u16.wrap x)))=Cp.qW x:=by
  rw [eA,eB,eI];rfl
 have HM:=hU hm;clear eA eB eI hm;cases ht:Cp.qW x
 · rw [qGx ht];rw [ht] at HM;clear ht;go_in;go_wp2_with (go_at_call 183;refine Calls.mono (nN _ _ _ _ _ ?_) ?_;(exact hT.below bel);rintro e w1 ⟨rfl,hb1⟩;rw [HM.out];obtain ⟨hc1,hf1,hz1⟩:=dM hb1;simp at hz1)
   have z02:w.heap.size<w.heap.size + 1 + 1:=by omega
   have y0:w.heap.size<w1.heap.size:=by omega
   have y1:w.heap.size + 1<w1.heap.size:=by omega
   repeat' (first|go_values|go_skip|go_guarded|(with_reducible refine wg ?_)|go_step|go_upon)
   all_goals (apply bodyPost_ret;(simp only [results,results129];go_simp;exact rfl);rfl)
   all_goals exact cF rfl bel
 · rw [qDj ht];rw [ht] at HM;clear ht;go_in;go_wp2_with (go_at_call 183;refine Calls.mono (nN _ _ _ _ _ ?_) ?_;(exact hT.below bel);rintro e w1 ⟨rfl,hb1⟩;rw [HM.out];obtain ⟨hc1,hf1,hz1⟩:=dM hb1;simp at hz1)
   have z02:w.heap.size<w.heap.size + 1 + 1:=by omega
   have y0:w.heap.size<w1.heap.size:=by omega
   have y1:w.heap.size + 1<w1.heap.size:=by omega
   repeat' (first|go_values|go_skip|go_guarded|(with_reducible refine wg ?_)|go_step|go_upon)
   all_goals (apply bodyPost_ret;(simp only [results,results129];go_simp;exact rfl);rfl)
   all_goals exact cF (qWv rfl HA.out HB.out HI.out rfl) bel
end Take
def Words (rs:List Int):Prop:=rs.length=8∧∀ x ∈ rs,0≤x∧x<4294967296
theorem Words.at {rs:List Int} (h:Words rs) (k:Nat):0≤rs.getD k 0∧rs.getD k 0<4294967296:=by
 by_cases hk:k<rs.length
 · rw [List.getD_eq_getElem?_getD,List.getElem?_eq_getElem hk];exact h.2 _ (List.getElem_mem hk)
 · rw [List.getD_eq_getElem?_getD,List.getElem?_eq_none (by omega)];exact ⟨by decide,by decide⟩
theorem qNf (rs:List Int) (pc op a b i:Int) (w:World) (hw:Words rs) (hT:Tab w):
 Calls prog 133 #[Cp.oE rs pc,.agg #[.int .i64 op,.int .i64 a,.int .i64 b,.int .i64 i]] w
  (aN (.tuple #[Cp.oE (Cp.gW rs pc op a b i) (Cp.iJ rs pc op a b i),.bool (Cp.gR op a b i)]) w):=by
 by_cases hm:Cp.may op a b i=true
 · have hlim:Cp.lim op a b i=true:=by
    simp only [Cp.may,Bool.and_eq_true] at hm;exact hm.1.1.1
   obtain ⟨h1,h24,ha0,ha8,hb0,hb8,_,_⟩:=Cp.zU.1 hlim;have sa:=Does.sel rs hw.1 pc a ha0 ha8;have sb:=Does.sel rs hw.1 pc b hb0 hb8;have wa:=hw.at a.toNat;have wb:=hw.at b.toNat;generalize hra:rs.getD a.toNat 0=ra at sa wa;generalize hrb:rs.getD b.toNat 0=rb at sb wb;match rs,hw.1 with
   |[r0,r1,r2,r3,r4,r5,r6,r7],_=>
    have h:(op=1∨op=2∨op=3∨op=4∨op=5∨op=6∨op=8∨op=9)∨(op=10∨op=11∨op=12∨op=13∨op=19∨op=20∨op=21∨op=22∨op=23)∨op=7∨op=14∨op=15∨op=16∨op=17∨op=18∨op=24:=by omega
    rcases h with h|h|rfl|h
    · have g:=Does.goA a b i r0 r1 r2 r3 r4 r5 r6 r7 pc ra rb w op h hT ha0 ha8 hb0 hb8 (hU hm) wa.1 wa.2 wb.1 wb.2 sa sb
      have e:Cp.gW [r0,r1,r2,r3,r4,r5,r6,r7] pc op a b i=[r0,r1,r2,r3,r4,r5,r6,r7].set a.toNat (Cp.val op ra rb (i % 4294967296) pc)∧Cp.iJ [r0,r1,r2,r3,r4,r5,r6,r7] pc op a b i=Cp.nxt op ra rb (i % 4294967296) pc∧Cp.gR op a b i=true:=by
       unfold Cp.gW Cp.regs Cp.iJ Cp.gR;rw [hm,hra,hrb];rcases h with rfl|rfl|rfl|rfl|rfl|rfl|rfl|rfl <;> exact ⟨rfl,rfl,rfl⟩
      rw [e.1,e.2.1,e.2.2];exact g
    · have g:=Does.goB a b i r0 r1 r2 r3 r4 r5 r6 r7 pc ra rb w op h hT ha0 ha8 hb0 hb8 (hU hm) wa.1 wa.2 wb.1 wb.2 sa sb
      have e:Cp.gW [r0,r1,r2,r3,r4,r5,r6,r7] pc op a b i=[r0,r1,r2,r3,r4,r5,r6,r7].set a.toNat (Cp.val op ra rb (i % 4294967296) pc)∧Cp.iJ [r0,r1,r2,r3,r4,r5,r6,r7] pc op a b i=Cp.nxt op ra rb (i % 4294967296) pc∧Cp.gR op a b i=true:=by
       unfold Cp.gW Cp.regs Cp.iJ Cp.gR;rw [hm,hra,hrb];rcases h with rfl|rfl|rfl|rfl|rfl|rfl|rfl|rfl|rfl <;> exact ⟨rfl,rfl,rfl⟩
      rw [e.1,e.2.1,e.2.2];exact g
    · by_cases hz:rb=0
      · have h:=Does.go7z a b i r0 r1 r2 r3 r4 r5 r6 r7 pc ra rb w hT hz ha0 ha8 hb0 hb8 (hU hm) wa.1 wa.2 wb.1 wb.2 sa sb;have eR:Cp.gW [r0,r1,r2,r3,r4,r5,r6,r7] pc 7 a b i=[r0,r1,r2,r3,r4,r5,r6,r7].set a.toNat (Cp.val 7 ra rb (i % 4294967296) pc):=by unfold Cp.gW Cp.regs;rw [hm,hra,hrb];rfl
        have eP:Cp.iJ [r0,r1,r2,r3,r4,r5,r6,r7] pc 7 a b i=Cp.nxt 7 ra rb (i % 4294967296) pc:=by unfold Cp.iJ;rw [hm,hra,hrb];rfl
        have eB:Cp.gR 7 a b i=true:=by unfold Cp.gR;rw [hm];rfl
        rw [eR,eP,eB];exact h
      · have h:=Does.go7 a b i r0 r1 r2 r3 r4 r5 r6 r7 pc ra rb w hT hz (by simpa using hz) ha0 ha8 hb0 hb8 (hU hm) wa.1 wa.2 wb.1 wb.2 sa sb;have eR:Cp.gW [r0,r1,r2,r3,r4,r5,r6,r7] pc 7 a b i=[r0,r1,r2,r3,r4,r5,r6,r7].set a.toNat (Cp.val 7 ra rb (i % 4294967296) pc):=by unfold Cp.gW Cp.regs;rw [hm,hra,hrb];rfl
        have eP:Cp.iJ [r0,r1,r2,r3,r4,r5,r6,r7] pc 7 a b i=Cp.nxt 7 ra rb (i % 4294967296) pc:=by unfold Cp.iJ;rw [hm,hra,hrb];rfl
        have eB:Cp.gR 7 a b i=true:=by unfold Cp.gR;rw [hm];rfl
        rw [eR,eP,eB];exact h
    · have g:=Does.xAc a b i r0 r1 r2 r3 r4 r5 r6 r7 pc ra rb w op h hT ha0 ha8 hb0 hb8 (hU hm) sa sb
      have e:Cp.gW [r0,r1,r2,r3,r4,r5,r6,r7] pc op a b i=[r0,r1,r2,r3,r4,r5,r6,r7]∧Cp.iJ [r0,r1,r2,r3,r4,r5,r6,r7] pc op a b i=(if (18:Int)=op then (pc + 4 * (i % 4294967296)) % 4294967296 else pc)∧Cp.gR op a b i=(18==op):=by
       unfold Cp.gW Cp.regs Cp.iJ Cp.gR;rw [hm];rcases h with rfl|rfl|rfl|rfl|rfl|rfl <;> exact ⟨rfl,rfl,rfl⟩
      rw [e.1,e.2.1,e.2.2];exact g
 · have hm':Cp.may op a b i=false:=by simpa using hm
   match rs,hw.1 with
   |[r0,r1,r2,r3,r4,r5,r6,r7],_=>
    have h:=Does.no op a b i r0 r1 r2 r3 r4 r5 r6 r7 pc w hT (hU hm');have eR:Cp.gW [r0,r1,r2,r3,r4,r5,r6,r7] pc op a b i=[r0,r1,r2,r3,r4,r5,r6,r7]:=by unfold Cp.gW;rw [hm'];rfl
    have eP:Cp.iJ [r0,r1,r2,r3,r4,r5,r6,r7] pc op a b i=pc:=by unfold Cp.iJ;rw [hm'];rfl
    have eB:Cp.gR op a b i=false:=by unfold Cp.gR;rw [hm'];rfl
    rw [eR,eP,eB];exact h
end Go.Proofs.YtfncknignkndiaaGreatDoor
namespace Go.Proofs.YtfncknignkndiaaGreatDoor
open Tryz
open Go
def qZe (P:Program) (t:TypeId):Nat × TypeId:=
 match P.underlying t with
 |some (.array n e)=> (n,e)
 |_=> (0,0)
attribute [go_sem] qZe
def qOw (d:Nat) (e:TypeId) (n:Nat) (xs ys:Array Value):Nat→Nat→Sem Bool
 |_,0=> pure true
 |i,k + 1=> do
  let a ← part e xs (i * n)
  let b ← part e ys (i * n)
  let r ← Op.equalIn d e a b
  if (!r)=true then pure false else qOw d e n xs ys (i + 1) k
attribute [go_sem] qOw
section
variable {P:Program} (w:World)
end
end Go.Proofs.YtfncknignkndiaaGreatDoor
namespace Go.Proofs.YtfncknignkndiaaGreatDoor
open Tryz
open Go
end Go.Proofs.YtfncknignkndiaaGreatDoor
namespace Go.Proofs.YtfncknignkndiaaGreatDoor
open Tryz
open Go.RowKit
theorem uQ (rs:List Int) (k:Nat) (h:k<rs.length):rs.set k (rs.getD k 0)=rs:=by
 apply List.ext_getElem?;intro j;rw [List.getElem?_set];by_cases e:k=j
 · subst e;simp [h]
 · simp [e]
theorem qLp {rs:List Int} {pc op a b i:Int} (h:rs.length=8):(Cp.gW rs pc op a b i).length=8:=by
 unfold Cp.gW Cp.regs;split
 · split
   · exact h
   · simpa using h
 · exact h
theorem qSd {rs:List Int} (pc:Int) (h:rs.length=8):∃ s0 s1 s2 s3 s4 s5 s6 s7,rs=[s0,s1,s2,s3,s4,s5,s6,s7]∧
 Cp.oE rs pc=.agg #[.int .u32 s0,.int .u32 s1,.int .u32 s2,.int .u32 s3,.int .u32 s4,.int .u32 s5,.int .u32 s6,.int .u32 s7,.int .u32 pc]:=by
 match rs,h with
 |[s0,s1,s2,s3,s4,s5,s6,s7],_=> exact ⟨s0,s1,s2,s3,s4,s5,s6,s7,rfl,rfl⟩
theorem qJd {r0 r1 r2 r3 r4 r5 r6 r7 pc op a b i s0 s1 s2 s3 s4 s5 s6 s7 p:Int} {t:Bool} (hw:Words [r0,r1,r2,r3,r4,r5,r6,r7])
 (hs:Cp.gW [r0,r1,r2,r3,r4,r5,r6,r7] pc op a b i=[s0,s1,s2,s3,s4,s5,s6,s7]) (hp:Cp.iJ [r0,r1,r2,r3,r4,r5,r6,r7] pc op a b i=p) (hb:Cp.gR op a b i=t) (W:World) (hT:Tab W):
 Calls prog 133 #[.agg #[.int .u32 r0,.int .u32 r1,.int .u32 r2,.int .u32 r3,.int .u32 r4,.int .u32 r5,.int .u32 r6,.int .u32 r7,.int .u32 pc],.agg #[.int .i64 op,.int .i64 a,.int .i64 b,.int .i64 i]] W
  (aN (.tuple #[.agg #[.int .u32 s0,.int .u32 s1,.int .u32 s2,.int .u32 s3,.int .u32 s4,.int .u32 s5,.int .u32 s6,.int .u32 s7,.int .u32 p],.bool t]) W):=by
 have h:=qNf [r0,r1,r2,r3,r4,r5,r6,r7] pc op a b i W hw hT;rw [hs,hp,hb] at h;exact h
theorem qFu {rs:List Int} {pc op a b i:Int} (h:Cp.gR op a b i=false):Cp.gW rs pc op a b i=rs∧Cp.iJ rs pc op a b i=pc:=by
 unfold Cp.gR at h;unfold Cp.gW Cp.iJ;rw [h];exact ⟨rfl,rfl⟩
theorem qLn {op a b i:Int} (h:Cp.gR op a b i=true):1≤op∧op≤23∧¬ (14≤op∧op≤17)∧0≤a∧a<8∧0≤b∧b<8:=by
 unfold Cp.gR at h;rw [Bool.and_eq_true] at h;obtain ⟨hm,hp⟩:=h;simp only [Cp.may,Bool.and_eq_true] at hm;obtain ⟨h1,h24,ha0,ha8,hb0,hb8,_,_⟩:=Cp.zU.1 hm.1.1.1;simp [Cp.plain] at hp;refine ⟨h1,?_,?_,ha0,ha8,hb0,hb8⟩ <;> omega
theorem qLo {rs:List Int} {pc op a b i:Int} (h:Cp.gR op a b i=true):Cp.iJ rs pc op a b i=Cp.nxt op (rs.getD a.toNat 0) (rs.getD b.toNat 0) (i % 4294967296) pc:=by
 unfold Cp.gR at h;unfold Cp.iJ;rw [h];rfl
theorem qLq {rs:List Int} {pc op a b i:Int} (h:Cp.gR op a b i=true):Cp.gW rs pc op a b i=Cp.regs rs op a (Cp.val op (rs.getD a.toNat 0) (rs.getD b.toNat 0) (i % 4294967296) pc):=by
 unfold Cp.gR at h;unfold Cp.gW;rw [h];rfl
theorem qDl {rs:List Int} (hw:Words rs) (k:Nat) {x:Int} (h0:0≤x) (h1:x<4294967296):Words (rs.set k x):=by
 refine ⟨by simpa using hw.1,fun y hy=> ?_⟩;rcases List.mem_or_eq_of_mem_set hy with h|rfl
 · exact hw.2 y h
 · exact ⟨h0,h1⟩
section
variable {rs:List Int} (hw:Words rs) {a b:Int} (ha0:0≤a) (ha8:a<8) (hb0:0≤b) (hb8:b<8) (hab:a ≠ b) (pc p2:Int)
include hw ha0 ha8 hb0 hb8
