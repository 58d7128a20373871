/- What cpu.Does puts into registers and where it goes on, at the jumps, at what is refused, and at two operations one behind the other. Condition: words. -/
import Derived.Test.YtllemloicianmaaDoorCpuLawDoes
set_option linter.unusedVariables false
set_option linter.unusedSimpArgs false
namespace Go.Proofs.YtllemloicianmaaDoor
open Go.RowKit

theorem doesB_no {rs : List Int} {pc op a b i : Int} (h : Cp.doesB op a b i = false) : Cp.doesR rs pc op a b i = rs ∧ Cp.doesP rs pc op a b i = pc := by
  unfold Cp.doesB at h
  unfold Cp.doesR Cp.doesP
  rw [h]
  exact ⟨rfl, rfl⟩

theorem doesB_yes {op a b i : Int} (h : Cp.doesB op a b i = true) : 1 ≤ op ∧ op ≤ 23 ∧ ¬ (14 ≤ op ∧ op ≤ 17) ∧ 0 ≤ a ∧ a < 8 ∧ 0 ≤ b ∧ b < 8 := by
  unfold Cp.doesB at h
  rw [Bool.and_eq_true] at h
  obtain ⟨hm, hp⟩ := h
  simp only [Cp.may, Bool.and_eq_true] at hm
  obtain ⟨h1, h24, ha0, ha8, hb0, hb8, _, _⟩ := Cp.lim_iff.1 hm.1.1.1
  simp [Cp.plain] at hp
  refine ⟨h1, ?_, ?_, ha0, ha8, hb0, hb8⟩ <;> omega

theorem doesP_yes {rs : List Int} {pc op a b i : Int} (h : Cp.doesB op a b i = true) : Cp.doesP rs pc op a b i = Cp.nxt op (rs.getD a.toNat 0) (rs.getD b.toNat 0) (i % 4294967296) pc := by
  unfold Cp.doesB at h
  unfold Cp.doesP
  rw [h]
  rfl
theorem doesR_yes {rs : List Int} {pc op a b i : Int} (h : Cp.doesB op a b i = true) : Cp.doesR rs pc op a b i = Cp.regs rs op a (Cp.val op (rs.getD a.toNat 0) (rs.getD b.toNat 0) (i % 4294967296) pc) := by
  unfold Cp.doesB at h
  unfold Cp.doesR
  rw [h]
  rfl
theorem doesR_jump {rs : List Int} {pc op a b i : Int} (hl : rs.length = 8) (h : Cp.doesB op a b i = true) (ho : 20 ≤ op) : Cp.doesR rs pc op a b i = rs := by
  obtain ⟨_, h23, _, ha0, ha8, _, _⟩ := doesB_yes h
  rw [doesR_yes h]
  have e : Cp.val op (rs.getD a.toNat 0) (rs.getD b.toNat 0) (i % 4294967296) pc = rs.getD a.toNat 0 := by
    have n : ∀ k : Int, k < 20 → ¬ op = k := fun k hk => by omega
    unfold Cp.val
    simp only [n 1 (by omega), n 2 (by omega), n 3 (by omega), n 4 (by omega), n 5 (by omega), n 6 (by omega), n 7 (by omega), n 8 (by omega), n 9 (by omega), n 10 (by omega), n 11 (by omega), n 12 (by omega), n 13 (by omega), n 19 (by omega), if_false]
  rw [e]
  unfold Cp.regs
  rw [if_neg (by omega)]
  exact set_self _ _ (by omega)

/-! two operations, one behind the other -/
theorem may_ab {op a b : Int} (ho : op = 4 ∨ op = 5 ∨ op = 10) (ha0 : 0 ≤ a) (ha8 : a < 8) (hb0 : 0 ≤ b) (hb8 : b < 8) : Cp.doesB op a b 0 = true := by
  have hl : Cp.lim op a b 0 = true := Cp.lim_iff.2 ⟨by omega, by omega, ha0, ha8, hb0, hb8, by omega, by omega⟩
  unfold Cp.doesB Cp.may
  rw [hl]
  rcases ho with rfl | rfl | rfl <;> rfl

theorem getD_set_same (rs : List Int) (k : Nat) (x : Int) (h : k < rs.length) : (rs.set k x).getD k 0 = x := by simp [h]
theorem getD_set_other (rs : List Int) (j k : Nat) (x : Int) (h : j ≠ k) : (rs.set j x).getD k 0 = rs.getD k 0 := by simp [h]
theorem words_set {rs : List Int} (hw : Words rs) (k : Nat) {x : Int} (h0 : 0 ≤ x) (h1 : x < 4294967296) : Words (rs.set k x) := by
  refine ⟨by simpa using hw.1, fun y hy => ?_⟩
  rcases List.mem_or_eq_of_mem_set hy with h | rfl
  · exact hw.2 y h
  · exact ⟨h0, h1⟩

theorem xor_words {x y : Int} (h0 : 0 ≤ x) (h1 : x < 4294967296) (h2 : 0 ≤ y) (h3 : y < 4294967296) : bits .xor .u32 (bits .xor .u32 x y) y = x ∧ 0 ≤ bits .xor .u32 x y ∧ bits .xor .u32 x y < 4294967296 := by
  obtain ⟨m, rfl⟩ := Int.eq_ofNat_of_zero_le h0
  obtain ⟨n, rfl⟩ := Int.eq_ofNat_of_zero_le h2
  have hlt : m ^^^ n < 2 ^ 32 := Nat.xor_lt_two_pow (by omega) (by omega)
  rw [u32_xor_nat m n (by omega) (by omega), u32_xor_nat (m ^^^ n) n (by omega) (by omega), Nat.xor_assoc, Nat.xor_self, Nat.xor_zero]
  omega

section
variable {rs : List Int} (hw : Words rs) {a b : Int} (ha0 : 0 ≤ a) (ha8 : a < 8) (hb0 : 0 ≤ b) (hb8 : b < 8) (hab : a ≠ b) (pc p2 : Int)
include hw ha0 ha8 hb0 hb8
theorem add_words : Words (Cp.doesR rs pc 4 a b 0) := by
  rw [doesR_yes (may_ab (.inl rfl) ha0 ha8 hb0 hb8)]
  exact words_set hw _ (show 0 ≤ (_ : Int) % 4294967296 by omega) (show (_ : Int) % 4294967296 < 4294967296 by omega)
theorem xor_words8 : Words (Cp.doesR rs pc 10 a b 0) := by
  rw [doesR_yes (may_ab (.inr (.inr rfl)) ha0 ha8 hb0 hb8)]
  have x := hw.at a.toNat
  have y := hw.at b.toNat
  have h := xor_words x.1 x.2 y.1 y.2
  exact words_set hw _ h.2.1 h.2.2
include hab
theorem undo_add : Cp.doesR (Cp.doesR rs pc 4 a b 0) p2 5 a b 0 = rs := by
  rw [doesR_yes (may_ab (.inl rfl) ha0 ha8 hb0 hb8), doesR_yes (may_ab (.inr (.inl rfl)) ha0 ha8 hb0 hb8)]
  have hl := hw.1
  have x := hw.at a.toNat
  have y := hw.at b.toNat
  show ((rs.set a.toNat ((rs.getD a.toNat 0 + rs.getD b.toNat 0) % 4294967296)).set a.toNat
    (((rs.set a.toNat ((rs.getD a.toNat 0 + rs.getD b.toNat 0) % 4294967296)).getD a.toNat 0 - (rs.set a.toNat ((rs.getD a.toNat 0 + rs.getD b.toNat 0) % 4294967296)).getD b.toNat 0) % 4294967296)) = rs
  rw [getD_set_same _ _ _ (by omega), getD_set_other _ _ _ _ (by omega), List.set_set]
  rw [show ((rs.getD a.toNat 0 + rs.getD b.toNat 0) % 4294967296 - rs.getD b.toNat 0) % 4294967296 = rs.getD a.toNat 0 by omega]
  exact set_self _ _ (by omega)
theorem undo_xor : Cp.doesR (Cp.doesR rs pc 10 a b 0) p2 10 a b 0 = rs := by
  rw [doesR_yes (may_ab (.inr (.inr rfl)) ha0 ha8 hb0 hb8), doesR_yes (may_ab (.inr (.inr rfl)) ha0 ha8 hb0 hb8)]
  have hl := hw.1
  have x := hw.at a.toNat
  have y := hw.at b.toNat
  show ((rs.set a.toNat (bits .xor .u32 (rs.getD a.toNat 0) (rs.getD b.toNat 0))).set a.toNat
    (bits .xor .u32 ((rs.set a.toNat (bits .xor .u32 (rs.getD a.toNat 0) (rs.getD b.toNat 0))).getD a.toNat 0) ((rs.set a.toNat (bits .xor .u32 (rs.getD a.toNat 0) (rs.getD b.toNat 0))).getD b.toNat 0))) = rs
  rw [getD_set_same _ _ _ (by omega), getD_set_other _ _ _ _ (by omega), List.set_set, (xor_words x.1 x.2 y.1 y.2).1]
  exact set_self _ _ (by omega)
end
end Go.Proofs.YtllemloicianmaaDoor
