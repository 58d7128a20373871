/- Words, and the structs that some laws are asked of, as they come in. No condition. -/
import Derived.Test.YtbneagebeacofaaRows
import Derived.Test.YtbneagebeacofaaBase
import Derived.Test.YtbneagebeacofaaCardStr
import Derived.ProofKit
import Derived.OpenShut
import Derived.Lib.SmallJoins
set_option linter.unusedVariables false
set_option linter.unusedSimpArgs false
namespace Go.Proofs.Ytbneagebeacofaa
open Go.ChangeShapes Go.WideShapes Go.ChangeAt Go.RowKit Go.Joins

theorem u32_bounds {x : Int} (h : (Lit.int .u32 x).wf = true) : 0 ≤ x ∧ x < 4294967296 := by
  have hmin : IntKind.u32.min = 0 := rfl
  have hmax : IntKind.u32.max = 4294967295 := rfl
  simp only [Lit.wf, Bool.and_eq_true, decide_eq_true_eq] at h
  omega

theorem reach_part {H : Type} {P : Program} {ts : List TypeId} {ds parts : List (DataW H)} {j : Nat} {t : TypeId} {fs : Array Field} (h : (DataW.weightsEach P ts ds).all (· ≤ reachBytes) = true) (ht : ts[j]? = some t)
    (hd : ds[j]? = some (.agg parts)) (hu : P.underlying t = some (.struct fs)) : (DataW.weightsEach P (fs.toList.map (·.type)) parts).all (· ≤ reachBytes) = true := by
  rw [List.all_eq_true] at h ⊢
  intro n hn
  exact h n (DataW.weights_mem_each ht hd n (by simp only [DataW.weights, hu]; exact hn))

section
variable {H : Type} {enc : TypeId × Value → H} {w : World} {base b : Nat} {sp : Nat → Bool} {hd : Bool} {r : Reach}
theorem open_word {fuel : Nat} {c : Value} {x : DataW H × List MemPlace} (h : DataW.trod enc Try.prog w b sp hd fuel 22 [c] = some x) : ∃ n, c = .int .u32 n ∧ x = (.lit (.int .u32 n), []) ∧ 0 ≤ n ∧ n < 4294967296 := by
  obtain ⟨n, hc, hx, hw⟩ := DataW.trod_int Try.underlying22 h
  injection hc with hc
  exact ⟨n, hc, hx, u32_bounds hw⟩
theorem open_strc {fuel : Nat} {c : Value} {x : DataW H × List MemPlace} (h : DataW.trod enc Try.prog w b sp hd fuel 9 [c] = some x) : ∃ s : ByteArray, c = .string s ∧ x = (.lit (.string s.data.toList), []) := by
  obtain ⟨s, hc, hx, _⟩ := DataW.trod_string Try.underlying9 h
  injection hc with hc
  exact ⟨s, hc, hx⟩
theorem cells_SegBackIn : Try.prog.cellsOf 32 = 4 := by kernel_rfl
theorem open_SegBackIn {v : Value} {d : DataW H} {p : List MemPlace} (hv : Value.okWide Try.prog w r base 32 v) (h : DataW.Trod enc Try.prog w b sp hd 32 v d p) :
    ∃ (m : ByteArray) (a x o : Int), v = .agg #[.string m, .int .u32 a, .int .u32 x, .int .u32 o] ∧ d = .agg [.lit (.string m.data.toList), .lit (.int .u32 a), .lit (.int .u32 x), .lit (.int .u32 o)] ∧
      0 ≤ a ∧ a < 4294967296 ∧ 0 ≤ x ∧ x < 4294967296 ∧ 0 ≤ o ∧ o < 4294967296 := by
  obtain ⟨c0, c1, c2, c3, y0, y1, y2, y3, n, rfl, rfl, _, h0, h1, h2, h3⟩ := open_agg4 Try.underlying32 (by kernel_rfl) cells_SegBackIn hv h
  obtain ⟨m, rfl, rfl⟩ := open_strc h0
  obtain ⟨a, rfl, rfl, a0, a1⟩ := open_word h1
  obtain ⟨x, rfl, rfl, x0, x1⟩ := open_word h2
  obtain ⟨o, rfl, rfl, o0, o1⟩ := open_word h3
  exact ⟨m, a, x, o, rfl, rfl, a0, a1, x0, x1, o0, o1⟩
theorem cells_SegOneIn : Try.prog.cellsOf 44 = 4 := by kernel_rfl
theorem open_SegOneIn {v : Value} {d : DataW H} {p : List MemPlace} (hv : Value.okWide Try.prog w r base 44 v) (h : DataW.Trod enc Try.prog w b sp hd 44 v d p) :
    ∃ (m : ByteArray) (a x o : Int), v = .agg #[.string m, .int .u32 a, .int .u32 x, .int .u32 o] ∧ d = .agg [.lit (.string m.data.toList), .lit (.int .u32 a), .lit (.int .u32 x), .lit (.int .u32 o)] ∧
      0 ≤ a ∧ a < 4294967296 ∧ 0 ≤ x ∧ x < 4294967296 ∧ 0 ≤ o ∧ o < 4294967296 := by
  obtain ⟨c0, c1, c2, c3, y0, y1, y2, y3, n, rfl, rfl, _, h0, h1, h2, h3⟩ := open_agg4 Try.underlying44 (by kernel_rfl) cells_SegOneIn hv h
  obtain ⟨m, rfl, rfl⟩ := open_strc h0
  obtain ⟨a, rfl, rfl, a0, a1⟩ := open_word h1
  obtain ⟨x, rfl, rfl, x0, x1⟩ := open_word h2
  obtain ⟨o, rfl, rfl, o0, o1⟩ := open_word h3
  exact ⟨m, a, x, o, rfl, rfl, a0, a1, x0, x1, o0, o1⟩
end
end Go.Proofs.Ytbneagebeacofaa
