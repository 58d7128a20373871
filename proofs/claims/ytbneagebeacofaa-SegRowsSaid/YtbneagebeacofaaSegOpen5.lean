/- What SegRows is asked of, as it comes in. No condition. -/
import Derived.Test.YtbneagebeacofaaSegOpen
set_option linter.unusedVariables false
set_option linter.unusedSimpArgs false
namespace Go.Proofs.Ytbneagebeacofaa
open Go.ChangeShapes Go.WideShapes Go.ChangeAt Go.RowKit Go.Joins
section
variable {H : Type} {enc : TypeId × Value → H} {w : World} {base b : Nat} {sp : Nat → Bool} {hd : Bool} {r : Reach}
theorem cells_rows : Try.prog.cellsOf 35 = 5 := by kernel_rfl
theorem open_SegRowsIn {v : Value} {d : DataW H} {p : List MemPlace} (hv : Value.okWide Try.prog w r base 35 v) (h : DataW.Trod enc Try.prog w b sp hd 35 v d p) :
    ∃ (m s : ByteArray) (a n z : Int), v = .agg #[.string m, .int .u32 a, .int .u32 n, .string s, .int .i64 z] ∧ d = .agg [.lit (.string m.data.toList), .lit (.int .u32 a), .lit (.int .u32 n), .lit (.string s.data.toList), .lit (.int .i64 z)] ∧
      0 ≤ a ∧ a < 4294967296 ∧ 0 ≤ n ∧ n < 4294967296 := by
  obtain ⟨cs, rfl, hsz⟩ := okWide_struct Try.underlying35 hv
  rw [cells_rows] at hsz
  obtain ⟨fuel, hf⟩ := h
  obtain ⟨l⟩ := cs
  match l, hsz with
  | [c0, c1, c2, c3, c4], _ =>
    obtain ⟨xs, k, _, hx, _, hlen, hg⟩ := DataW.trod_struct Try.underlying35 hf
    match xs, hlen with
    | [y0, y1, y2, y3, y4], _ =>
      have g0 := hg 0 _ rfl
      have g1 := hg 1 _ rfl
      have g2 := hg 2 _ rfl
      have g3 := hg 3 _ rfl
      have g4 := hg 4 _ rfl
      simp only [Prod.mk.injEq] at hx
      obtain ⟨hd1, _⟩ := hx
      obtain ⟨m, hm, hy0, _⟩ := DataW.trod_string Try.underlying9 g0
      obtain ⟨a, ha, hy1, wa⟩ := DataW.trod_int Try.underlying22 g1
      obtain ⟨n, hn, hy2, wn⟩ := DataW.trod_int Try.underlying22 g2
      obtain ⟨s, hs, hy3, _⟩ := DataW.trod_string Try.underlying9 g3
      obtain ⟨z, hz, hy4, wz⟩ := DataW.trod_int Try.underlying3 g4
      obtain rfl : c0 = .string m := by injection hm
      obtain rfl : c1 = .int .u32 a := by injection ha
      obtain rfl : c2 = .int .u32 n := by injection hn
      obtain rfl : c3 = .string s := by injection hs
      obtain rfl : c4 = .int .i64 z := by injection hz
      have := u32_bounds wa
      have := u32_bounds wn
      refine ⟨m, s, a, n, z, rfl, ?_, by omega, by omega, by omega, by omega⟩
      rw [hd1]
      subst hy0 hy1 hy2 hy3 hy4
      rfl
end
end Go.Proofs.Ytbneagebeacofaa
