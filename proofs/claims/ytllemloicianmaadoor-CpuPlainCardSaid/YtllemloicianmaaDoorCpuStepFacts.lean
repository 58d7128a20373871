/- What a step keeps: the registers stay words, a memory's size stays; what is refused changes nothing; a step changes one register and four bytes at most. Condition: words. -/
import Derived.Test.YtllemloicianmaaDoorCpuStep
set_option linter.unusedVariables false
set_option linter.unusedSimpArgs false
namespace Go.Proofs.YtllemloicianmaaDoor
open Go.RowKit

theorem bits_lt {op : BinOp} (ho : op = .and ∨ op = .or ∨ op = .xor) {x y : Int} (h0 : 0 ≤ x) (h1 : x < 4294967296) (h2 : 0 ≤ y) (h3 : y < 4294967296) : 0 ≤ bits op .u32 x y ∧ bits op .u32 x y < 4294967296 := by
  obtain ⟨m, rfl⟩ := Int.eq_ofNat_of_zero_le h0
  obtain ⟨n, rfl⟩ := Int.eq_ofNat_of_zero_le h2
  rcases ho with rfl | rfl | rfl
  · have hlt : m &&& n ≤ m := Nat.and_le_left
    rw [u32_and_nat m n (by omega) (by omega)]
    omega
  · have hlt : m ||| n < 2 ^ 32 := Nat.or_lt_two_pow (by omega) (by omega)
    rw [u32_or_nat m n (by omega) (by omega)]
    omega
  · have hlt : m ^^^ n < 2 ^ 32 := Nat.xor_lt_two_pow (by omega) (by omega)
    rw [u32_xor_nat m n (by omega) (by omega)]
    omega

theorem div_lt {x y : Int} (h0 : 0 ≤ x) (h1 : x < 4294967296) (h2 : 0 ≤ y) : 0 ≤ x / y ∧ x / y < 4294967296 :=
  ⟨Int.ediv_nonneg h0 h2, Int.lt_of_le_of_lt (Int.ediv_le_self _ h0) h1⟩
theorem mod_lt (x : Int) : 0 ≤ x % 4294967296 ∧ x % 4294967296 < 4294967296 := by omega

theorem ite_word {c : Prop} [Decidable c] {x y : Int} (hx : 0 ≤ x ∧ x < 4294967296) (hy : 0 ≤ y ∧ y < 4294967296) : 0 ≤ (if c then x else y) ∧ (if c then x else y) < 4294967296 := by
  by_cases h : c
  · rw [if_pos h]; exact hx
  · rw [if_neg h]; exact hy
theorem val_word {op ra rb im pc : Int} (a0 : 0 ≤ ra) (a1 : ra < 4294967296) (b0 : 0 ≤ rb) (b1 : rb < 4294967296) (i0 : 0 ≤ im) (i1 : im < 4294967296) :
    0 ≤ Cp.val op ra rb im pc ∧ Cp.val op ra rb im pc < 4294967296 := by
  have e1 := bits_lt (.inl rfl) a0 a1 b0 b1
  have e2 := bits_lt (.inr (.inl rfl)) a0 a1 b0 b1
  have e3 := bits_lt (.inr (.inr rfl)) a0 a1 b0 b1
  have e4 := div_lt a0 a1 b0
  have e5 := div_lt a0 a1 (show (0 : Int) ≤ 2 ^ (rb % 32).toNat from Int.le_of_lt (Int.pow_pos (by omega)))
  unfold Cp.val
  exact ite_word ⟨i0, i1⟩ (ite_word (mod_lt _) (ite_word ⟨b0, b1⟩ (ite_word (mod_lt _) (ite_word (mod_lt _) (ite_word (mod_lt _) (ite_word (ite_word (by omega) e4) (ite_word e1 (ite_word e2 (ite_word e3
    (ite_word (mod_lt _) (ite_word e5 (ite_word (mod_lt _) (ite_word (mod_lt _) ⟨a0, a1⟩)))))))))))))

theorem nxt_word {op ra rb im pc : Int} (a0 : 0 ≤ ra) (a1 : ra < 4294967296) : 0 ≤ Cp.nxt op ra rb im pc ∧ Cp.nxt op ra rb im pc < 4294967296 := by
  unfold Cp.nxt
  exact ite_word (mod_lt _) (ite_word ⟨a0, a1⟩ (mod_lt _))

/-- what holds of a step -/
structure Kept (rs : List Int) (pc : Int) (m : ByteArray) (s : Cp.St) : Prop where
  words : Words s.rs
  lo : 0 ≤ s.pc
  hi : s.pc < 4294967296
  size : s.m.size = m.size
  ways : (s.t = 1 ∨ s.t = 2) ∧ s.rs = rs ∧ s.pc = pc ∧ s.m = m ∨ s.t = 3 ∧ s.rs = rs ∧ s.pc = (pc + 4) % 4294967296 ∧ s.m = m ∨
    s.t = 0 ∧ (∃ k x, k < 8 ∧ s.rs = rs.set k x) ∧ ∃ k, ∀ j, ¬ (k ≤ j ∧ j < k + 4) → Sg.byte s.m j = Sg.byte m j

theorem doesR_form {rs : List Int} (hw : Words rs) (pc op a b i : Int) : Words (Cp.doesR rs pc op a b i) ∧ ∃ k x, k < 8 ∧ Cp.doesR rs pc op a b i = rs.set k x := by
  cases hB : Cp.doesB op a b i with
  | false =>
    rw [(doesB_no hB).1]
    exact ⟨hw, 0, rs.getD 0 0, by omega, (set_self rs 0 (by rw [hw.1]; omega)).symm⟩
  | true =>
    obtain ⟨_, _, _, ha0, ha8, _, _⟩ := doesB_yes hB
    rw [doesR_yes hB]
    unfold Cp.regs
    split
    · exact ⟨hw, 0, rs.getD 0 0, by omega, (set_self rs 0 (by rw [hw.1]; omega)).symm⟩
    · have wa := hw.at a.toNat
      have wb := hw.at b.toNat
      have hv := val_word (op := op) (pc := pc) wa.1 wa.2 wb.1 wb.2 (mod_lt i).1 (mod_lt i).2
      exact ⟨words_set hw _ hv.1 hv.2, a.toNat, _, by omega, rfl⟩
theorem doesP_word {rs : List Int} (hw : Words rs) {pc : Int} (p0 : 0 ≤ pc) (p1 : pc < 4294967296) (op a b i : Int) : 0 ≤ Cp.doesP rs pc op a b i ∧ Cp.doesP rs pc op a b i < 4294967296 := by
  cases hB : Cp.doesB op a b i with
  | false => rw [(doesB_no hB).2]; exact ⟨p0, p1⟩
  | true =>
    rw [doesP_yes hB]
    have wa := hw.at a.toNat
    exact nxt_word wa.1 wa.2

theorem kept_stay {rs : List Int} (hw : Words rs) {pc : Int} (p0 : 0 ≤ pc) (p1 : pc < 4294967296) (m : ByteArray) {t : Int} (ht : t = 1 ∨ t = 2) : Kept rs pc m ⟨rs, pc, m, t⟩ :=
  ⟨hw, p0, p1, rfl, .inl ⟨ht, rfl, rfl, rfl⟩⟩
theorem kept_set {rs : List Int} (hw : Words rs) (pc : Int) (m : ByteArray) {k : Nat} (hk : k < 8) {x : Int} (x0 : 0 ≤ x) (x1 : x < 4294967296) : Kept rs pc m ⟨rs.set k x, (pc + 4) % 4294967296, m, 0⟩ :=
  ⟨words_set hw _ x0 x1, (mod_lt _).1, (mod_lt _).2, rfl, .inr (.inr ⟨rfl, ⟨k, x, hk, rfl⟩, 0, fun _ _ => rfl⟩)⟩
theorem kept_put {rs : List Int} (hw : Words rs) (pc : Int) (m : ByteArray) {k : Nat} {l : List UInt8} (hl : l.length ≤ 4) (h : k + l.length ≤ m.size) : Kept rs pc m ⟨rs, (pc + 4) % 4294967296, Sg.put m k l, 0⟩ :=
  ⟨hw, (mod_lt _).1, (mod_lt _).2, Sg.put_size h, .inr (.inr ⟨rfl, ⟨0, rs.getD 0 0, by omega, (set_self rs 0 (by rw [hw.1]; omega)).symm⟩, k, fun j hj => Sg.byte_put_out h (by omega)⟩)⟩

theorem stepI_kept {rs : List Int} (hw : Words rs) {pc : Int} (p0 : 0 ≤ pc) (p1 : pc < 4294967296) (m : ByteArray) (op a b i : Int) (ha0 : 0 ≤ a) (ha8 : a < 8) : Kept rs pc m (Cp.stepI rs pc m op a b i) := by
  have q := mod_lt (rs.getD b.toNat 0 + i)
  unfold Cp.stepI
  simp only []
  split
  · split
    · exact kept_set hw pc m (by omega) (Sg.word_lo _ _) (Sg.word_hi _ _)
    · exact kept_stay hw p0 p1 m (.inr rfl)
  split
  · split
    · exact kept_set hw pc m (by omega) (Sg.byte_lo _ _) (by have := Sg.byte_hi m ((rs.getD b.toNat 0 + i) % 4294967296).toNat; omega)
    · exact kept_stay hw p0 p1 m (.inr rfl)
  split
  · split
    · rename_i h
      simp only [Sg.isWord, Sg.has, Bool.and_eq_true, decide_eq_true_eq] at h
      exact kept_put hw pc m (Nat.le_refl 4) (show _ + 4 ≤ _ by omega)
    · exact kept_stay hw p0 p1 m (.inr rfl)
  split
  · split
    · rename_i h
      simp only [Sg.has, decide_eq_true_eq] at h
      exact kept_put hw pc m (show 1 ≤ 4 by omega) (show _ + 1 ≤ _ by omega)
    · exact kept_stay hw p0 p1 m (.inr rfl)
  split
  · exact ⟨hw, (mod_lt _).1, (mod_lt _).2, rfl, .inr (.inl ⟨rfl, rfl, rfl, rfl⟩)⟩
  · have d := doesR_form hw pc op a b i
    have e := doesP_word hw p0 p1 op a b i
    exact ⟨d.1, e.1, e.2, rfl, .inr (.inr ⟨rfl, d.2, 0, fun _ _ => rfl⟩)⟩

theorem step_kept {rs : List Int} (hw : Words rs) {pc : Int} (p0 : 0 ≤ pc) (p1 : pc < 4294967296) (m : ByteArray) : Kept rs pc m (Cp.step rs pc m) := by
  unfold Cp.step
  split
  · split
    · rename_i h
      have := takeB_lim h
      exact stepI_kept hw p0 p1 m _ _ _ _ this.2.2.1 this.2.2.2.1
    · exact kept_stay hw p0 p1 m (.inl rfl)
  · exact kept_stay hw p0 p1 m (.inr rfl)

/-- Step at registers that are written out -/
theorem Step_ex {r0 r1 r2 r3 r4 r5 r6 r7 pc s0 s1 s2 s3 s4 s5 s6 s7 p t : Int} {m k : ByteArray} (hw : Words [r0, r1, r2, r3, r4, r5, r6, r7]) (p0 : 0 ≤ pc) (p1 : pc < 4294967296) (hm : m.size ≤ 140737488355328)
    (hs : (Cp.step [r0, r1, r2, r3, r4, r5, r6, r7] pc m).rs = [s0, s1, s2, s3, s4, s5, s6, s7]) (hp : (Cp.step [r0, r1, r2, r3, r4, r5, r6, r7] pc m).pc = p) (hk : (Cp.step [r0, r1, r2, r3, r4, r5, r6, r7] pc m).m = k) (ht : (Cp.step [r0, r1, r2, r3, r4, r5, r6, r7] pc m).t = t) (W : World) (hT : Tab W) :
    Calls Tryd.prog 15 #[.agg #[.int .u32 r0, .int .u32 r1, .int .u32 r2, .int .u32 r3, .int .u32 r4, .int .u32 r5, .int .u32 r6, .int .u32 r7, .int .u32 pc], .string m] W
      (Gives (.tuple #[.agg #[.int .u32 s0, .int .u32 s1, .int .u32 s2, .int .u32 s3, .int .u32 s4, .int .u32 s5, .int .u32 s6, .int .u32 s7, .int .u32 p], .string k, .int .i64 t]) W) := by
  have h := Step_any [r0, r1, r2, r3, r4, r5, r6, r7] pc m W hw p0 p1 hm hT
  rw [hs, hp, hk, ht] at h
  exact h
end Go.Proofs.YtllemloicianmaaDoor
