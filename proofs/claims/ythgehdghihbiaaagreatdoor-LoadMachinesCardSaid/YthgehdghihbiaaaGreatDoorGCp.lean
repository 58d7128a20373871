/- cpu.Does answers what Cp.doesR, Cp.doesP, Cp.doesB say, in every world that holds the table isa.uses. Condition: the registers are words. '==' of two arrays, element by element: a law for the walk. No condition. '==' of two register rows, as the walk meets it. No condition. cpu.Does at registers that are written out. Condition: the table isa.uses lies in its variable. cpu.Step, where no instruction is found, and at a system call. Condition: the registers are words. What cpu.Does puts into registers and where it goes on, at the jumps, at what is refused, and at two operations one behind the other. Condition: words. cpu.Step answers what Cp.step says, in every world that holds the table of the uses. Condition: the registers are words, a memory is no longer than a string can be. What a step keeps: the registers stay words, a memory's size stays; what is refused changes nothing; a step changes one register and four bytes at most. Condition: words. -/
import Derived.Test.YthgehdghihbiaaaGreatDoorProg
import Derived.KernelRfl
import Derived.Test.YthgehdghihbiaaaGreatDoorGSeg
set_option linter.unusedVariables false
set_option linter.unusedSimpArgs false
namespace Go.Proofs.YthgehdghihbiaaaGreatDoor
open Go.RowKit
def Words (rs:List Int):Prop:=rs.length=8∧∀ x ∈ rs,0≤x∧x<4294967296
theorem Words.at {rs:List Int} (h:Words rs) (k:Nat):0≤rs.getD k 0∧rs.getD k 0<4294967296:=by
 by_cases hk:k<rs.length
 · rw [List.getD_eq_getElem?_getD,List.getElem?_eq_getElem hk];exact h.2 _ (List.getElem_mem hk)
 · rw [List.getD_eq_getElem?_getD,List.getElem?_eq_none (by omega)];exact ⟨by decide,by decide⟩
end Go.Proofs.YthgehdghihbiaaaGreatDoor
namespace Go.Proofs.YthgehdghihbiaaaGreatDoor
open Go
def arrOf (P:Program) (t:TypeId):Nat × TypeId:=
 match P.underlying t with
 |some (.array n e)=> (n,e)
 |_=> (0,0)
attribute [go_sem] arrOf
def eqFrom (d:Nat) (e:TypeId) (n:Nat) (xs ys:Array Value):Nat→Nat→Sem Bool
 |_,0=> pure true
 |i,k + 1=> do
  let a ← part e xs (i * n)
  let b ← part e ys (i * n)
  let r ← Op.equalIn d e a b
  if (!r)=true then pure false else eqFrom d e n xs ys (i + 1) k
attribute [go_sem] eqFrom
section
variable {P:Program} (w:World)
theorem run_forIn_range (d:Nat) (e:TypeId) (n:Nat) (xs ys:Array Value):∀ (k i:Nat) (w:World),
 ((do
   let r ← forIn (List.range' i k) ((none,()):Option Bool × Unit) (fun j _=> do
    let a ← part e xs (j * n)
    let b ← part e ys (j * n)
    let r ← Op.equalIn d e a b
    if (!r)=true then pure (ForInStep.done (some false,())) else pure (ForInStep.yield (none,())))
   match r.fst with
   |some a=> pure a
   |none=> pure true):Sem Bool).run P w=(eqFrom d e n xs ys i k).run P w:=by
 intro k
 induction k with
 |zero=> intro i w;simp [eqFrom]
 |succ k ih=>
  intro i w
  simp only [List.range'_succ,List.forIn_cons,eqFrom,Sem.run_bind]
  generalize (part e xs (i * n)).run P w=r1
  cases r1 with
  |ok a w1=>
   simp only [Result.andThen_ok]
   generalize (part e ys (i * n)).run P w1=r2
   cases r2 with
   |ok b w2=>
    simp only [Result.andThen_ok]
    generalize (Op.equalIn d e a b).run P w2=r3
    cases r3 with
    |ok r w3=>
     cases r
     · simp
     · have:=ih (i + 1) w3
       simp only [Sem.run_bind] at this
       simpa using this
    |halt x w3=> simp [Result.andThen]
   |halt x w2=> simp [Result.andThen]
  |halt x w1=> simp [Result.andThen]
theorem run_equalIn_array (d:Nat) (t:TypeId) (xs ys:Array Value) (i:TypeInfo) (ht:P.underlying t=some (.array (arrOf P t).1 (arrOf P t).2)) (hn:P.info? (arrOf P t).2=some i):
 (Op.equalIn (d + 1) t (.agg xs) (.agg ys)).run P w=(eqFrom d (arrOf P t).2 i.size xs ys 0 (arrOf P t).1).run P w:=by
 rw [← run_forIn_range]
 simp [Op.equalIn,run_underlying ht,sizeOf,typeInfo,hn,Std.Legacy.Range.forIn_eq_forIn_range',Std.Legacy.Range.size]
 refine congrArg (fun f=> Result.andThen _ f) ?_
 funext a w'
 rcases a with ⟨_|_,_⟩ <;> rfl
end
end Go.Proofs.YthgehdghihbiaaaGreatDoor
namespace Go.Proofs.YthgehdghihbiaaaGreatDoor
open Go
theorem info_word:(Tryz.prog.info? 208).map (fun i=> i.size)=some 1:=by kernel_rfl
theorem arr_regs (d:Nat) (W:World) (xs ys:Array Value):(Op.equalIn (d + 1) 211 (.agg xs) (.agg ys)).run Tryz.prog W=(eqFrom d 208 1 xs ys 0 8).run Tryz.prog W:=by
 obtain ⟨i,hi,hs⟩:=Option.map_eq_some_iff.1 info_word
 have e:arrOf Tryz.prog 211=(8,208):=by unfold arrOf;rw [Tryz.underlying211]
 have h:=run_equalIn_array (P:=Tryz.prog) W d 211 xs ys i (by rw [e];exact Tryz.underlying211) (by rw [e];exact hi)
 rw [e,hs] at h
 exact h
end Go.Proofs.YthgehdghihbiaaaGreatDoor
namespace Go.Proofs.YthgehdghihbiaaaGreatDoor
open Go.RowKit
theorem set_self (rs:List Int) (k:Nat) (h:k<rs.length):rs.set k (rs.getD k 0)=rs:=by
 apply List.ext_getElem?
 intro j
 rw [List.getElem?_set]
 by_cases e:k=j
 · subst e;simp [h]
 · simp [e]
theorem cell_alloc_old {w:World} {O:Obj} {b o:Nat} (h:b<w.heap.size):(w.alloc O).cell? ⟨b,o,none⟩=w.cell? ⟨b,o,none⟩:=
 ((Below.refl w.heap.size w).alloc (Nat.le_refl _) O).cell (p:=⟨b,o,none⟩) h
theorem three {v v':Value} {s s':ByteArray} {t:Int} (h:v=v') (hs:s=s'):Value.tuple #[v,.string s,.int .i64 t]=.tuple #[v',.string s',.int .i64 t]:=by rw [h,hs]
namespace Seg
end Seg
namespace Step
variable (r0 r1 r2 r3 r4 r5 r6 r7 pc:Int) (m:ByteArray) (w:World)
end Step
end Go.Proofs.YthgehdghihbiaaaGreatDoor
namespace Go.Proofs.YthgehdghihbiaaaGreatDoor
open Go.RowKit
theorem doesB_no {rs:List Int} {pc op a b i:Int} (h:Cp.doesB op a b i=false):Cp.doesR rs pc op a b i=rs∧Cp.doesP rs pc op a b i=pc:=by
 unfold Cp.doesB at h
 unfold Cp.doesR Cp.doesP
 rw [h]
 exact ⟨rfl,rfl⟩
theorem doesB_yes {op a b i:Int} (h:Cp.doesB op a b i=true):1≤op∧op≤23∧¬ (14≤op∧op≤17)∧0≤a∧a<8∧0≤b∧b<8:=by
 unfold Cp.doesB at h
 rw [Bool.and_eq_true] at h
 obtain ⟨hm,hp⟩:=h
 simp only [Cp.may,Bool.and_eq_true] at hm
 obtain ⟨h1,h24,ha0,ha8,hb0,hb8,_,_⟩:=Cp.lim_iff.1 hm.1.1.1
 simp [Cp.plain] at hp
 refine ⟨h1,?_,?_,ha0,ha8,hb0,hb8⟩ <;> omega
theorem doesP_yes {rs:List Int} {pc op a b i:Int} (h:Cp.doesB op a b i=true):Cp.doesP rs pc op a b i=Cp.nxt op (rs.getD a.toNat 0) (rs.getD b.toNat 0) (i % 4294967296) pc:=by
 unfold Cp.doesB at h
 unfold Cp.doesP
 rw [h]
 rfl
theorem doesR_yes {rs:List Int} {pc op a b i:Int} (h:Cp.doesB op a b i=true):Cp.doesR rs pc op a b i=Cp.regs rs op a (Cp.val op (rs.getD a.toNat 0) (rs.getD b.toNat 0) (i % 4294967296) pc):=by
 unfold Cp.doesB at h
 unfold Cp.doesR
 rw [h]
 rfl
theorem words_set {rs:List Int} (hw:Words rs) (k:Nat) {x:Int} (h0:0≤x) (h1:x<4294967296):Words (rs.set k x):=by
 refine ⟨by simpa using hw.1,fun y hy=> ?_⟩
 rcases List.mem_or_eq_of_mem_set hy with h|rfl
 · exact hw.2 y h
 · exact ⟨h0,h1⟩
section
variable {rs:List Int} (hw:Words rs) {a b:Int} (ha0:0≤a) (ha8:a<8) (hb0:0≤b) (hb8:b<8) (hab:a ≠ b) (pc p2:Int)
include hw ha0 ha8 hb0 hb8
end
end Go.Proofs.YthgehdghihbiaaaGreatDoor
namespace Go.Proofs.YthgehdghihbiaaaGreatDoor
open Go.RowKit
theorem takeB_lim {x:Int} (h:Cp.takeB x=true):1≤Cp.opOf x∧Cp.opOf x≤24∧0≤Cp.aOf x∧Cp.aOf x<8∧0≤Cp.bOf x∧Cp.bOf x<8:=by
 unfold Cp.takeB Cp.may at h
 simp only [Bool.and_eq_true] at h
 obtain ⟨h1,h24,ha0,ha8,hb0,hb8,_,_⟩:=Cp.lim_iff.1 h.1.1.1
 exact ⟨h1,h24,ha0,ha8,hb0,hb8⟩
theorem bits_lt {op:BinOp} (ho:op=.and∨op=.or∨op=.xor) {x y:Int} (h0:0≤x) (h1:x<4294967296) (h2:0≤y) (h3:y<4294967296):0≤bits op .u32 x y∧bits op .u32 x y<4294967296:=by
 obtain ⟨m,rfl⟩:=Int.eq_ofNat_of_zero_le h0
 obtain ⟨n,rfl⟩:=Int.eq_ofNat_of_zero_le h2
 rcases ho with rfl|rfl|rfl
 · have hlt:m &&& n≤m:=Nat.and_le_left
   rw [u32_and_nat m n (by omega) (by omega)]
   omega
 · have hlt:m|||n<2 ^ 32:=Nat.or_lt_two_pow (by omega) (by omega)
   rw [u32_or_nat m n (by omega) (by omega)]
   omega
 · have hlt:m ^^^ n<2 ^ 32:=Nat.xor_lt_two_pow (by omega) (by omega)
   rw [u32_xor_nat m n (by omega) (by omega)]
   omega
theorem div_lt {x y:Int} (h0:0≤x) (h1:x<4294967296) (h2:0≤y):0≤x / y∧x / y<4294967296:=
 ⟨Int.ediv_nonneg h0 h2,Int.lt_of_le_of_lt (Int.ediv_le_self _ h0) h1⟩
theorem mod_lt (x:Int):0≤x % 4294967296∧x % 4294967296<4294967296:=by omega
theorem ite_word {c:Prop} [Decidable c] {x y:Int} (hx:0≤x∧x<4294967296) (hy:0≤y∧y<4294967296):0≤(if c then x else y)∧(if c then x else y)<4294967296:=by
 by_cases h:c
 · rw [if_pos h];exact hx
 · rw [if_neg h];exact hy
theorem val_word {op ra rb im pc:Int} (a0:0≤ra) (a1:ra<4294967296) (b0:0≤rb) (b1:rb<4294967296) (i0:0≤im) (i1:im<4294967296):
 0≤Cp.val op ra rb im pc∧Cp.val op ra rb im pc<4294967296:=by
 have e1:=bits_lt (.inl rfl) a0 a1 b0 b1
 have e2:=bits_lt (.inr (.inl rfl)) a0 a1 b0 b1
 have e3:=bits_lt (.inr (.inr rfl)) a0 a1 b0 b1
 have e4:=div_lt a0 a1 b0
 have e5:=div_lt a0 a1 (show (0:Int)≤2 ^ (rb % 32).toNat from Int.le_of_lt (Int.pow_pos (by omega)))
 unfold Cp.val
 exact ite_word ⟨i0,i1⟩ (ite_word (mod_lt _) (ite_word ⟨b0,b1⟩ (ite_word (mod_lt _) (ite_word (mod_lt _) (ite_word (mod_lt _) (ite_word (ite_word (by omega) e4) (ite_word e1 (ite_word e2 (ite_word e3
  (ite_word (mod_lt _) (ite_word e5 (ite_word (mod_lt _) (ite_word (mod_lt _) ⟨a0,a1⟩)))))))))))))
theorem nxt_word {op ra rb im pc:Int} (a0:0≤ra) (a1:ra<4294967296):0≤Cp.nxt op ra rb im pc∧Cp.nxt op ra rb im pc<4294967296:=by
 unfold Cp.nxt
 exact ite_word (mod_lt _) (ite_word ⟨a0,a1⟩ (mod_lt _))
structure Kept (rs:List Int) (pc:Int) (m:ByteArray) (s:Cp.St):Prop where
 words:Words s.rs
 lo:0≤s.pc
 hi:s.pc<4294967296
 size:s.m.size=m.size
 ways:(s.t=1∨s.t=2)∧s.rs=rs∧s.pc=pc∧s.m=m∨s.t=3∧s.rs=rs∧s.pc=(pc + 4) % 4294967296∧s.m=m∨
  s.t=0∧(∃ k x,k<8∧s.rs=rs.set k x)∧∃ k,∀ j,¬ (k≤j∧j<k + 4)→Sg.byte s.m j=Sg.byte m j
theorem doesR_form {rs:List Int} (hw:Words rs) (pc op a b i:Int):Words (Cp.doesR rs pc op a b i)∧∃ k x,k<8∧Cp.doesR rs pc op a b i=rs.set k x:=by
 cases hB:Cp.doesB op a b i with
 |false=>
  rw [(doesB_no hB).1]
  exact ⟨hw,0,rs.getD 0 0,by omega,(set_self rs 0 (by rw [hw.1];omega)).symm⟩
 |true=>
  obtain ⟨_,_,_,ha0,ha8,_,_⟩:=doesB_yes hB
  rw [doesR_yes hB]
  unfold Cp.regs
  split
  · exact ⟨hw,0,rs.getD 0 0,by omega,(set_self rs 0 (by rw [hw.1];omega)).symm⟩
  · have wa:=hw.at a.toNat
    have wb:=hw.at b.toNat
    have hv:=val_word (op:=op) (pc:=pc) wa.1 wa.2 wb.1 wb.2 (mod_lt i).1 (mod_lt i).2
    exact ⟨words_set hw _ hv.1 hv.2,a.toNat,_,by omega,rfl⟩
theorem doesP_word {rs:List Int} (hw:Words rs) {pc:Int} (p0:0≤pc) (p1:pc<4294967296) (op a b i:Int):0≤Cp.doesP rs pc op a b i∧Cp.doesP rs pc op a b i<4294967296:=by
 cases hB:Cp.doesB op a b i with
 |false=> rw [(doesB_no hB).2];exact ⟨p0,p1⟩
 |true=>
  rw [doesP_yes hB]
  have wa:=hw.at a.toNat
  exact nxt_word wa.1 wa.2
theorem kept_stay {rs:List Int} (hw:Words rs) {pc:Int} (p0:0≤pc) (p1:pc<4294967296) (m:ByteArray) {t:Int} (ht:t=1∨t=2):Kept rs pc m ⟨rs,pc,m,t⟩:=
 ⟨hw,p0,p1,rfl,.inl ⟨ht,rfl,rfl,rfl⟩⟩
theorem kept_set {rs:List Int} (hw:Words rs) (pc:Int) (m:ByteArray) {k:Nat} (hk:k<8) {x:Int} (x0:0≤x) (x1:x<4294967296):Kept rs pc m ⟨rs.set k x,(pc + 4) % 4294967296,m,0⟩:=
 ⟨words_set hw _ x0 x1,(mod_lt _).1,(mod_lt _).2,rfl,.inr (.inr ⟨rfl,⟨k,x,hk,rfl⟩,0,fun _ _=> rfl⟩)⟩
theorem kept_put {rs:List Int} (hw:Words rs) (pc:Int) (m:ByteArray) {k:Nat} {l:List UInt8} (hl:l.length≤4) (h:k + l.length≤m.size):Kept rs pc m ⟨rs,(pc + 4) % 4294967296,Sg.put m k l,0⟩:=
 ⟨hw,(mod_lt _).1,(mod_lt _).2,Sg.put_size h,.inr (.inr ⟨rfl,⟨0,rs.getD 0 0,by omega,(set_self rs 0 (by rw [hw.1];omega)).symm⟩,k,fun j hj=> Sg.byte_put_out h (by omega)⟩)⟩
theorem stepI_kept {rs:List Int} (hw:Words rs) {pc:Int} (p0:0≤pc) (p1:pc<4294967296) (m:ByteArray) (op a b i:Int) (ha0:0≤a) (ha8:a<8):Kept rs pc m (Cp.stepI rs pc m op a b i):=by
 have q:=mod_lt (rs.getD b.toNat 0 + i)
 unfold Cp.stepI
 simp only []
 split
 · split
   · exact kept_set hw pc m (by omega) (Sg.word_lo _ _) (Sg.word_hi _ _)
   · exact kept_stay hw p0 p1 m (.inr rfl)
 split
 · split
   · exact kept_set hw pc m (by omega) (Sg.byte_lo _ _) (by have:=Sg.byte_hi m ((rs.getD b.toNat 0 + i) % 4294967296).toNat;omega)
   · exact kept_stay hw p0 p1 m (.inr rfl)
 split
 · split
   · rename_i h
     simp only [Sg.isWord,Sg.has,Bool.and_eq_true,decide_eq_true_eq] at h
     exact kept_put hw pc m (Nat.le_refl 4) (show _ + 4≤_ by omega)
   · exact kept_stay hw p0 p1 m (.inr rfl)
 split
 · split
   · rename_i h
     simp only [Sg.has,decide_eq_true_eq] at h
     exact kept_put hw pc m (show 1≤4 by omega) (show _ + 1≤_ by omega)
   · exact kept_stay hw p0 p1 m (.inr rfl)
 split
 · exact ⟨hw,(mod_lt _).1,(mod_lt _).2,rfl,.inr (.inl ⟨rfl,rfl,rfl,rfl⟩)⟩
 · have d:=doesR_form hw pc op a b i
   have e:=doesP_word hw p0 p1 op a b i
   exact ⟨d.1,e.1,e.2,rfl,.inr (.inr ⟨rfl,d.2,0,fun _ _=> rfl⟩)⟩
theorem step_kept {rs:List Int} (hw:Words rs) {pc:Int} (p0:0≤pc) (p1:pc<4294967296) (m:ByteArray):Kept rs pc m (Cp.step rs pc m):=by
 unfold Cp.step
 split
 · split
   · rename_i h
     have:=takeB_lim h
     exact stepI_kept hw p0 p1 m _ _ _ _ this.2.2.1 this.2.2.2.1
   · exact kept_stay hw p0 p1 m (.inl rfl)
 · exact kept_stay hw p0 p1 m (.inr rfl)
end Go.Proofs.YthgehdghihbiaaaGreatDoor
