/- slices.Equal of two slices of strings; load.same. No condition. -/
import Derived.Test.YtonhphdoieojfaaDoorProg
import Derived.Test.YtonhphdoieojfaaDoorLoadAt
import Derived.Handy
import Derived.WalkKit
import Derived.WalkSpells
import Derived.WalkLawsBesides
import Derived.Lib.Hide
import Derived.BigQuiet
import Derived.Deep.QuietTactic

set_option linter.unusedVariables false
set_option linter.unusedSimpArgs false
namespace Go.Proofs.YtonhphdoieojfaaDoor
open Go.RowKit
namespace Load
theorem eq_drop {α : Type} [DecidableEq α] {l m : List α} {k : Nat} {d : α} (hl : k < l.length) (hm : k < m.length) (h : decide (l = m) = decide (l.drop k = m.drop k)) (he : l.getD k d = m.getD k d) : decide (l = m) = decide (l.drop (k + 1) = m.drop (k + 1)) := by
  rw [List.getD_eq_getElem?_getD, List.getElem?_eq_getElem hl, Option.getD_some, List.getD_eq_getElem?_getD, List.getElem?_eq_getElem hm, Option.getD_some] at he
  rw [h, List.drop_eq_getElem_cons hl, List.drop_eq_getElem_cons hm, he]
  simp only [List.cons.injEq, true_and]
theorem ne_drop {α : Type} [DecidableEq α] {l m : List α} {k : Nat} {d : α} (hl : k < l.length) (hm : k < m.length) (h : decide (l = m) = decide (l.drop k = m.drop k)) (he : ¬ l.getD k d = m.getD k d) : decide (l = m) = false := by
  rw [List.getD_eq_getElem?_getD, List.getElem?_eq_getElem hl, Option.getD_some, List.getD_eq_getElem?_getD, List.getElem?_eq_getElem hm, Option.getD_some] at he
  rw [h, List.drop_eq_getElem_cons hl, List.drop_eq_getElem_cons hm]
  simp only [List.cons.injEq, he, false_and, decide_false]
theorem toList_ne {a b : ByteArray} (h : ¬ a = b) : (a.toList == b.toList) = false := by
  rw [beq_eq_false_iff_ne]
  intro he
  rw [ByteArray.toList_eq, ByteArray.toList_eq] at he
  exact h (ByteArray.ext (Array.ext' he))
/-- the head of the loop: so far they are the same -/
def Alike {α : Type} [DecidableEq α] (w : World) (l m : List α) (v : Value) (wr : World) : Prop := ∃ k : Nat, k ≤ l.length ∧ v = .int .i64 k ∧ Below w.heap.size w wr ∧ decide (l = m) = decide (l.drop k = m.drop k)
set_option maxHeartbeats 1000000 in
theorem equal (u v : Value) (l m : List ByteArray) (w : World) (hu : StrsAt w u l) (hv : StrsAt w v m) :
    Calls Tryd.prog 31 #[u, v] w (Gives (.bool (decide (l = m))) w) := by
  obtain ⟨a, c, rfl, hn, hsz, hc⟩ := hu
  obtain ⟨a', c', rfl, hn', hsz', hc'⟩ := hv
  have HC := Lib.hid hc
  have HC' := Lib.hid hc'
  clear hc hc'
  by_cases hlen : l.length = m.length
  · go_enter Tryd.func31, Tryd.ntmps31
    repeat' (first | go_values | go_skip | go_guarded | (with_reducible (first | refine ex_then_ret ?_ | refine ex_then_exit ?_ | refine ex_then_normal ?_ | refine ex_block_ret ?_ | refine ex_block_normal ?_ | refine ex_block_same ?_ | refine ex_block_other (by decide) ?_)) | go_step | go_upon)
    go_loopw [13] (fun v wr => Alike w l m v wr) (fun v _ => l.length - (intOf v).toNat)
    case atStart => exact ⟨0, Nat.zero_le _, rfl, Below.refl _ _, by rw [List.drop_zero, List.drop_zero]⟩
    case round =>
      obtain ⟨k, hk, rfl, hb, hany⟩ := hrel
      have HB := Lib.hid hb
      have HA := Lib.hid hany
      clear hb hany
      by_cases hlt : k < l.length
      · have hlt' : k < m.length := by omega
        obtain hnil | ⟨b, off, rfl, hbl, hcell⟩ := HC.out
        · rw [hnil] at hlt; exact absurd hlt (Nat.not_lt_zero _)
        obtain hnil | ⟨b', off', rfl, hbl', hcell'⟩ := HC'.out
        · rw [hnil] at hlt'; exact absurd hlt' (Nat.not_lt_zero _)
        have c0 := (HB.out.cell (p := ⟨b, off + k, none⟩) hbl).trans (hcell k hlt)
        have d0 := (HB.out.cell (p := ⟨b', off' + k, none⟩) hbl').trans (hcell' k hlt')
        by_cases he : l.getD k ByteArray.empty = m.getD k ByteArray.empty
        · have HN := Lib.hid (eq_drop hlt hlt' HA.out he)
          rw [← he] at d0
          generalize l.getD k ByteArray.empty = r at c0 d0
          clear hcell hcell' he
          repeat' (first | go_values | go_skip | go_guarded | (with_reducible (first | refine ex_then_ret ?_ | refine ex_then_exit ?_ | refine ex_then_normal ?_ | refine ex_block_ret ?_ | refine ex_block_normal ?_ | refine ex_block_same ?_ | refine ex_block_other (by decide) ?_)) | go_step | go_upon | go_quiet (fail))
          have hB := HB.out
          exact ⟨⟨k + 1, by omega, by go_num, (by repeat (with_reducible (first | exact Below.refl _ _ | assumption | refine Below.to ?_ (by assumption) | refine below_drewN ?_ _ | refine Below.alloc ?_ (by first | (simp; done) | omega | (simp; omega) | (simp at *; omega)) _ | refine Below.setCell ?_ (by first | (simp; done) | omega | (simp; omega) | (simp at *; omega)) _ | refine Below.drew ?_))), HN.out⟩, by simp [intOf]; omega⟩
        · have HN := Lib.hid (ne_drop hlt hlt' HA.out he)
          generalize l.getD k ByteArray.empty = r at c0 he
          generalize m.getD k ByteArray.empty = t at d0 he
          have hne := toList_ne he
          clear hcell hcell'
          repeat' (first | go_values | go_skip | go_guarded | (with_reducible (first | refine ex_then_ret ?_ | refine ex_then_exit ?_ | refine ex_then_normal ?_ | refine ex_block_ret ?_ | refine ex_block_normal ?_ | refine ex_block_same ?_ | refine ex_block_other (by decide) ?_)) | go_step | go_upon | go_quiet (fail))
          go_ret
          have hB := HB.out
          exact gives_bool HN.out.symm (by repeat (with_reducible (first | exact Below.refl _ _ | assumption | refine Below.to ?_ (by assumption) | refine below_drewN ?_ _ | refine Below.alloc ?_ (by first | (simp; done) | omega | (simp; omega) | (simp at *; omega)) _ | refine Below.setCell ?_ (by first | (simp; done) | omega | (simp; omega) | (simp at *; omega)) _ | refine Below.drew ?_)))
      · have HN := Lib.hid (show decide (l = m) = true by rw [HA.out, List.drop_of_length_le (by omega), List.drop_of_length_le (by omega)]; simp)
        repeat' (first | go_values | go_skip | go_guarded | (with_reducible (first | refine ex_then_ret ?_ | refine ex_then_exit ?_ | refine ex_then_normal ?_ | refine ex_block_ret ?_ | refine ex_block_normal ?_ | refine ex_block_same ?_ | refine ex_block_other (by decide) ?_)) | go_step | go_upon)
        go_ret
        have hB := HB.out
        exact gives_bool HN.out.symm (by repeat (with_reducible (first | exact Below.refl _ _ | assumption | refine Below.to ?_ (by assumption) | refine below_drewN ?_ _ | refine Below.alloc ?_ (by first | (simp; done) | omega | (simp; omega) | (simp at *; omega)) _ | refine Below.setCell ?_ (by first | (simp; done) | omega | (simp; omega) | (simp at *; omega)) _ | refine Below.drew ?_)))
  · go_enter Tryd.func31, Tryd.ntmps31
    have hlen' : ¬ (l.length : Int) = m.length := by omega
    repeat' (first | go_values | go_skip | go_guarded | (with_reducible (first | refine ex_then_ret ?_ | refine ex_then_exit ?_ | refine ex_then_normal ?_ | refine ex_block_ret ?_ | refine ex_block_normal ?_ | refine ex_block_same ?_ | refine ex_block_other (by decide) ?_)) | go_step | go_upon)
    all_goals go_ret
    all_goals exact gives_bool (by symm; rw [decide_eq_false_iff_not]; intro h; exact hlen (by rw [h])) (by repeat (with_reducible (first | exact Below.refl _ _ | assumption | refine Below.to ?_ (by assumption) | refine below_drewN ?_ _ | refine Below.alloc ?_ (by first | (simp; done) | omega | (simp; omega) | (simp at *; omega)) _ | refine Below.setCell ?_ (by first | (simp; done) | omega | (simp; omega) | (simp at *; omega)) _ | refine Below.drew ?_)))
end Load
end Go.Proofs.YtonhphdoieojfaaDoor
