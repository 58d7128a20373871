/- A processor and an instruction that come in as arguments: their cells. No condition. -/
import Derived.Test.YtllemloicianmaaDoorCpuDoes
import Derived.ProofKit
import Derived.OpenShut
import Derived.Lib.SmallJoins
set_option linter.unusedVariables false
set_option linter.unusedSimpArgs false
namespace Go.Proofs.YtllemloicianmaaDoor
open Go.ChangeShapes Go.WideShapes Go.ChangeAt Go.RowKit Go.Joins

section
variable {H : Type} {enc : TypeId × Value → H} {w : World} {base b : Nat} {sp : Nat → Bool} {hd : Bool} {r : Reach}
theorem cells_cpu : Tryd.prog.cellsOf 25 = 9 := by kernel_rfl
theorem cells_regs : Tryd.prog.cellsOf 23 = 8 := by kernel_rfl
theorem cells_word : Tryd.prog.cellsOf 22 = 1 := by kernel_rfl
theorem cells_ins : Tryd.prog.cellsOf 27 = 4 := by kernel_rfl
theorem cells_int : Tryd.prog.cellsOf 3 = 1 := by kernel_rfl

theorem u32_bounds {x : Int} (h : (Lit.int .u32 x).wf = true) : 0 ≤ x ∧ x < 4294967296 := by
  have hmin : IntKind.u32.min = 0 := rfl
  have hmax : IntKind.u32.max = 4294967295 := rfl
  simp only [Lit.wf, Bool.and_eq_true, decide_eq_true_eq] at h
  omega

theorem open_word {fuel : Nat} {c : Value} {x : DataW H × List MemPlace} (h : DataW.trod enc Tryd.prog w b sp hd fuel 22 [c] = some x) : ∃ n, c = .int .u32 n ∧ 0 ≤ n ∧ n < 4294967296 := by
  obtain ⟨n, hc, _, hw⟩ := DataW.trod_int Tryd.underlying22 h
  injection hc with hc
  exact ⟨n, hc, u32_bounds hw⟩
theorem open_intc {fuel : Nat} {c : Value} {x : DataW H × List MemPlace} (h : DataW.trod enc Tryd.prog w b sp hd fuel 3 [c] = some x) : ∃ n, c = .int .i64 n ∧ (Lit.int .i64 n).wf = true := by
  obtain ⟨n, hc, _, hw⟩ := DataW.trod_int Tryd.underlying3 h
  injection hc with hc
  exact ⟨n, hc, hw⟩

theorem open_cpu {v : Value} {d : DataW H} {p : List MemPlace} (hv : Value.okWide Tryd.prog w r base 25 v) (h : DataW.Trod enc Tryd.prog w b sp hd 25 v d p) :
    ∃ rs pc, v = Cp.cpuV rs pc ∧ Words rs ∧ 0 ≤ pc ∧ pc < 4294967296 := by
  obtain ⟨cs, rfl, hsz⟩ := okWide_struct Tryd.underlying25 hv
  rw [cells_cpu] at hsz
  obtain ⟨fuel, hf⟩ := h
  obtain ⟨l⟩ := cs
  match l, hsz with
  | [c0, c1, c2, c3, c4, c5, c6, c7, c8], _ =>
    obtain ⟨xs, n, _, _, _, hlen, hg⟩ := DataW.trod_struct Tryd.underlying25 hf
    have g0 := hg 0 _ rfl
    have g1 := hg 1 _ rfl
    have hx : xs.length = 2 := hlen
    rw [List.getElem?_eq_getElem (by omega)] at g0 g1
    simp only [cells_regs, cells_word, Value.cells] at g0 g1
    obtain ⟨ys, m, _, _, _, hyl, hy⟩ := DataW.trod_array Tryd.underlying23 g0
    have y : ∀ i, (hi : i < 8) → DataW.trod enc Tryd.prog w b sp hd m 22 ((([c0, c1, c2, c3, c4, c5, c6, c7].drop (i * 1)).take 1)) = some (ys[i]'(by omega)) := fun i hi => by
      have := hy i hi
      rw [List.getElem?_eq_getElem (by omega), cells_word] at this
      exact this
    obtain ⟨r0, rfl, b0⟩ := open_word (y 0 (by omega))
    obtain ⟨r1, rfl, b1⟩ := open_word (y 1 (by omega))
    obtain ⟨r2, rfl, b2⟩ := open_word (y 2 (by omega))
    obtain ⟨r3, rfl, b3⟩ := open_word (y 3 (by omega))
    obtain ⟨r4, rfl, b4⟩ := open_word (y 4 (by omega))
    obtain ⟨r5, rfl, b5⟩ := open_word (y 5 (by omega))
    obtain ⟨r6, rfl, b6⟩ := open_word (y 6 (by omega))
    obtain ⟨r7, rfl, b7⟩ := open_word (y 7 (by omega))
    obtain ⟨pc, rfl, bp⟩ := open_word g1
    refine ⟨[r0, r1, r2, r3, r4, r5, r6, r7], pc, rfl, ⟨rfl, ?_⟩, bp⟩
    intro x hx
    simp only [List.mem_cons, List.not_mem_nil, or_false] at hx
    rcases hx with rfl | rfl | rfl | rfl | rfl | rfl | rfl | rfl <;> assumption

theorem open_ins {v : Value} {d : DataW H} {p : List MemPlace} (hv : Value.okWide Tryd.prog w r base 27 v) (h : DataW.Trod enc Tryd.prog w b sp hd 27 v d p) :
    ∃ o x y i : Int, v = .agg #[.int .i64 o, .int .i64 x, .int .i64 y, .int .i64 i] ∧ (Lit.int .i64 o).wf = true ∧ (Lit.int .i64 x).wf = true ∧ (Lit.int .i64 y).wf = true ∧ (Lit.int .i64 i).wf = true := by
  obtain ⟨c0, c1, c2, c3, y0, y1, y2, y3, n, rfl, _, _, h0, h1, h2, h3⟩ := open_agg4 Tryd.underlying27 (by kernel_rfl) cells_ins hv h
  obtain ⟨o, rfl, w0⟩ := open_intc h0
  obtain ⟨x, rfl, w1⟩ := open_intc h1
  obtain ⟨y, rfl, w2⟩ := open_intc h2
  obtain ⟨i, rfl, w3⟩ := open_intc h3
  exact ⟨o, x, y, i, rfl, w0, w1, w2, w3⟩
end
end Go.Proofs.YtllemloicianmaaDoor
