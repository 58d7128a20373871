/- What CpuParts is asked of, as it comes in: its cells. No condition. -/
import Derived.Test.YtllemloicianmaaDoorCpuOpen
set_option linter.unusedVariables false
set_option linter.unusedSimpArgs false
namespace Go.Proofs.YtllemloicianmaaDoor
open Go.ChangeShapes Go.WideShapes Go.ChangeAt Go.RowKit Go.Joins
section
variable {H : Type} {enc : TypeId × Value → H} {w : World} {base b : Nat} {sp : Nat → Bool} {hd : Bool} {r : Reach}
theorem cells_parts : Tryd.prog.cellsOf 44 = 12 := by kernel_rfl
theorem cells_str : Tryd.prog.cellsOf 9 = 1 := by kernel_rfl
theorem open_cpu_cells {fuel : Nat} {c0 c1 c2 c3 c4 c5 c6 c7 c8 : Value} {x : DataW H × List MemPlace} (hf : DataW.trod enc Tryd.prog w b sp hd fuel 25 [c0, c1, c2, c3, c4, c5, c6, c7, c8] = some x) :
    ∃ r0 r1 r2 r3 r4 r5 r6 r7 pc, c0 = .int .u32 r0 ∧ c1 = .int .u32 r1 ∧ c2 = .int .u32 r2 ∧ c3 = .int .u32 r3 ∧ c4 = .int .u32 r4 ∧ c5 = .int .u32 r5 ∧ c6 = .int .u32 r6 ∧ c7 = .int .u32 r7 ∧ c8 = .int .u32 pc ∧
      Words [r0, r1, r2, r3, r4, r5, r6, r7] ∧ 0 ≤ pc ∧ pc < 4294967296 := by
  obtain ⟨xs, n, _, _, _, hlen, hg⟩ := DataW.trod_struct Tryd.underlying25 hf
  have g0 := hg 0 _ rfl
  have g1 := hg 1 _ rfl
  have hx : xs.length = 2 := hlen
  rw [List.getElem?_eq_getElem (by omega)] at g0 g1
  obtain ⟨ys, m, _, _, _, hyl, hy⟩ := DataW.trod_array Tryd.underlying23 g0
  have y : ∀ i, (hi : i < 8) → DataW.trod enc Tryd.prog w b sp hd m 22 ((([c0, c1, c2, c3, c4, c5, c6, c7].drop (i * 1)).take 1)) = some (ys[i]'(by omega)) := fun i hi => by
    have := hy i hi
    rw [List.getElem?_eq_getElem (by omega), cells_word] at this
    exact this
  obtain ⟨r0, rfl, b0⟩ := open_word (y 0 (by omega))
  obtain ⟨r1, rfl, b1⟩ := open_word (y 1 (by omega))
  obtain ⟨r2, rfl, b2⟩ := open_word (y 2 (by omega))
  obtain ⟨r3, rfl, b3⟩ := open_word (y 3 (by omega))
  obtain ⟨r4, rfl, b4⟩ := open_word (y 4 (by omega))
  obtain ⟨r5, rfl, b5⟩ := open_word (y 5 (by omega))
  obtain ⟨r6, rfl, b6⟩ := open_word (y 6 (by omega))
  obtain ⟨r7, rfl, b7⟩ := open_word (y 7 (by omega))
  obtain ⟨pc, rfl, bp⟩ := open_word g1
  refine ⟨r0, r1, r2, r3, r4, r5, r6, r7, pc, rfl, rfl, rfl, rfl, rfl, rfl, rfl, rfl, rfl, ⟨rfl, ?_⟩, bp⟩
  intro x hx
  simp only [List.mem_cons, List.not_mem_nil, or_false] at hx
  rcases hx with rfl | rfl | rfl | rfl | rfl | rfl | rfl | rfl <;> assumption

theorem open_parts {v : Value} {d : DataW H} {p : List MemPlace} (hv : Value.okWide Tryd.prog w r base 44 v) (h : DataW.Trod enc Tryd.prog w b sp hd 44 v d p) :
    ∃ (r0 r1 r2 r3 r4 r5 r6 r7 pc : Int) (m : ByteArray) (x y : Int), v = .agg #[.int .u32 r0, .int .u32 r1, .int .u32 r2, .int .u32 r3, .int .u32 r4, .int .u32 r5, .int .u32 r6, .int .u32 r7, .int .u32 pc, .string m, .int .i64 x, .int .i64 y] ∧
      Words [r0, r1, r2, r3, r4, r5, r6, r7] ∧ 0 ≤ pc ∧ pc < 4294967296 := by
  obtain ⟨cs, rfl, hsz⟩ := okWide_struct Tryd.underlying44 hv
  rw [cells_parts] at hsz
  obtain ⟨fuel, hf⟩ := h
  obtain ⟨l⟩ := cs
  match l, hsz with
  | [c0, c1, c2, c3, c4, c5, c6, c7, c8, c9, c10, c11], _ =>
    obtain ⟨xs, n, _, _, _, hlen, hg⟩ := DataW.trod_struct Tryd.underlying44 hf
    have g0 := hg 0 _ rfl
    have g1 := hg 1 _ rfl
    have g2 := hg 2 _ rfl
    have g3 := hg 3 _ rfl
    have hx : xs.length = 4 := hlen
    rw [List.getElem?_eq_getElem (by omega)] at g0 g1 g2 g3
    simp only [cells_cpu, cells_str, cells_int, Value.cells] at g0 g1 g2 g3
    obtain ⟨r0, r1, r2, r3, r4, r5, r6, r7, pc, rfl, rfl, rfl, rfl, rfl, rfl, rfl, rfl, rfl, hw, hp⟩ := open_cpu_cells g0
    obtain ⟨m, hm, _⟩ := DataW.trod_string Tryd.underlying9 g1
    obtain ⟨x, rfl, _⟩ := open_intc g2
    obtain ⟨y, rfl, _⟩ := open_intc g3
    obtain rfl : c9 = .string m := by injection hm
    exact ⟨r0, r1, r2, r3, r4, r5, r6, r7, pc, m, x, y, rfl, hw, hp⟩
end
end Go.Proofs.YtllemloicianmaaDoor
