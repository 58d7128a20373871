/- transomref20.Same: are two images the same. No condition. -/
import Derived.Test.YtonhphdoieojfaaDoorLoadWalkB
import Derived.WalkKit
import Derived.WalkSpells
import Derived.WalkLawsBesides
import Derived.Lib.Hide
import Derived.BigQuiet
import Derived.Deep.QuietTactic

set_option linter.unusedVariables false
set_option linter.unusedSimpArgs false
namespace Go.Proofs.YtonhphdoieojfaaDoor
open Go.RowKit
namespace Load
set_option maxHeartbeats 4000000 in
set_option maxRecDepth 100000 in
theorem refSame (u v : Value) (l m : List (List ByteArray)) (w : World) (hu : ImgsAt w u l) (hv : ImgsAt w v m) :
    Calls Tryd.prog 10 #[u, v] w (Gives (.bool (decide (l = m))) w) := by
  obtain ⟨a, c, rfl, hn, hc⟩ := hu
  obtain ⟨a', c', rfl, hn', hc'⟩ := hv
  have HC := Lib.hid hc
  have HC' := Lib.hid hc'
  clear hc hc'
  by_cases hlen : l.length = m.length
  · have HLEN := Lib.hid hlen
    have hlenI : ¬ ((l.length : Int) < m.length) := by omega
    have hlen1 : l.length ≤ m.length := by omega
    have hlen2 : m.length ≤ l.length := by omega
    go_enter Tryd.func10, Tryd.ntmps10
    repeat' (first | go_values | go_skip | go_guarded | (with_reducible (first | refine ex_then_ret ?_ | refine ex_then_exit ?_ | refine ex_then_normal ?_ | refine ex_block_ret ?_ | refine ex_block_normal ?_ | refine ex_block_same ?_ | refine ex_block_other (by decide) ?_)) | go_step | go_upon)
    clear hlen
    go_loopw [5] (fun v wr => Alike w l m v wr) (fun v _ => l.length - (intOf v).toNat)
    case atStart => exact ⟨0, Nat.zero_le _, rfl, Below.refl _ _, by rw [List.drop_zero, List.drop_zero]⟩
    case round =>
      obtain ⟨k, hk, rfl, hb, hany⟩ := hrel
      have HB := Lib.hid hb
      have HA := Lib.hid hany
      clear hb hany
      by_cases hlt : k < l.length
      · have hlt' : k < m.length := by omega
        obtain hnil | ⟨b, off, rfl, hbl, hcell⟩ := HC.out
        · rw [hnil] at hlt; exact absurd hlt (Nat.not_lt_zero _)
        obtain hnil | ⟨b', off', rfl, hbl', hcell'⟩ := HC'.out
        · rw [hnil] at hlt'; exact absurd hlt' (Nat.not_lt_zero _)
        obtain ⟨u1, hu1, hs1⟩ := hcell k hlt
        obtain ⟨u2, hu2, hs2⟩ := hcell' k hlt'
        have C0 := Lib.hid hu1
        have D0 := Lib.hid hu2
        have HE := Lib.hid (fun he => eq_drop (d := []) hlt hlt' HA.out he)
        have HN := Lib.hid (fun he => ne_drop (d := []) hlt hlt' HA.out he)
        have c0 := (HB.out.cell (p := ⟨b, off + k, none⟩) hbl).trans hu1
        have d0 := (HB.out.cell (p := ⟨b', off' + k, none⟩) hbl').trans hu2
        obtain ⟨a1, n1, rfl, hn1, hz1, hd1⟩ := hs1
        obtain ⟨a2, n2, rfl, hn2, hz2, hd2⟩ := hs2
        have HD1 := Lib.hid hd1
        have HD2 := Lib.hid hd2
        clear hcell hcell' hu1 hu2 hd1 hd2 hz1 hz2
        have hB := HB.out
        generalize l.getD k [] = r at *
        generalize m.getD k [] = t at *
        by_cases hrt : r.length = t.length
        · have hrt1 : r.length ≤ t.length := by omega
          have hrt2 : t.length ≤ r.length := by omega
          have hrt3 : ((r.length : Int) != t.length) = false := by simp [hrt]
          have hrt4 : ((r.length : Int) == t.length) = true := by simp [hrt]
          have HRT := Lib.hid hrt
          clear hrt
          repeat' (first | go_values | go_skip | go_guarded | (with_reducible (first | refine ex_then_ret ?_ | refine ex_then_exit ?_ | refine ex_then_normal ?_ | refine ex_block_ret ?_ | refine ex_block_normal ?_ | refine ex_block_same ?_ | refine ex_block_other (by decide) ?_)) | go_step | go_upon | go_quiet (fail))
          have hBw : Below w.heap.size w (wr.drewN nq) := (by repeat (with_reducible (first | exact Below.refl _ _ | assumption | refine Below.to ?_ (by assumption) | refine below_drewN ?_ _ | refine Below.alloc ?_ (by first | (simp; done) | omega | (simp; omega) | (simp at *; omega)) _ | refine Below.setCell ?_ (by first | (simp; done) | omega | (simp; omega) | (simp at *; omega)) _ | refine Below.drew ?_)))
          generalize hwi : wr.drewN nq = wi at *
          clear hwi
          go_loopw [6] (fun v wi => Alike w r t v wi) (fun v _ => r.length - (intOf v).toNat)
          case atStart => exact ⟨0, Nat.zero_le _, rfl, hBw, by rw [List.drop_zero, List.drop_zero]⟩
          case round =>
            clear c0 d0 hBw hB
            obtain ⟨j, hj, rfl, hbi, hani⟩ := hrel
            have HBI := Lib.hid hbi
            have HAI := Lib.hid hani
            clear hbi hani
            have c0 := (HBI.out.cell (p := ⟨b, off + k, none⟩) hbl).trans C0.out
            have d0 := (HBI.out.cell (p := ⟨b', off' + k, none⟩) hbl').trans D0.out
            by_cases hjt : j < r.length
            · have hjt' : j < t.length := by omega
              obtain hnil | ⟨b2, off2, rfl, hbl2, hcell2⟩ := HD1.out
              · rw [hnil] at hjt; exact absurd hjt (Nat.not_lt_zero _)
              obtain hnil | ⟨b3, off3, rfl, hbl3, hcell3⟩ := HD2.out
              · rw [hnil] at hjt'; exact absurd hjt' (Nat.not_lt_zero _)
              have c1 := (HBI.out.cell (p := ⟨b2, off2 + j, none⟩) hbl2).trans (hcell2 j hjt)
              have d1 := (HBI.out.cell (p := ⟨b3, off3 + j, none⟩) hbl3).trans (hcell3 j hjt')
              by_cases he : r.getD j ByteArray.empty = t.getD j ByteArray.empty
              · have HX := Lib.hid (eq_drop hjt hjt' HAI.out he)
                rw [← he] at d1
                generalize r.getD j ByteArray.empty = x at c1 d1
                clear hcell2 hcell3 he
                repeat' (first | go_values | go_skip | go_guarded | (with_reducible (first | refine ex_then_ret ?_ | refine ex_then_exit ?_ | refine ex_then_normal ?_ | refine ex_block_ret ?_ | refine ex_block_normal ?_ | refine ex_block_same ?_ | refine ex_block_other (by decide) ?_)) | go_step | go_upon | go_quiet (fail))
                have hB := HBI.out
                exact ⟨⟨j + 1, by omega, by go_num, (by repeat (with_reducible (first | exact Below.refl _ _ | assumption | refine Below.to ?_ (by assumption) | refine below_drewN ?_ _ | refine Below.alloc ?_ (by first | (simp; done) | omega | (simp; omega) | (simp at *; omega)) _ | refine Below.setCell ?_ (by first | (simp; done) | omega | (simp; omega) | (simp at *; omega)) _ | refine Below.drew ?_))), HX.out⟩, by simp [intOf]; omega⟩
              · have HX := Lib.hid (ne_drop hjt hjt' HAI.out he)
                have HF := Lib.hid (HN.out (of_decide_eq_false HX.out))
                generalize r.getD j ByteArray.empty = x at c1 he
                generalize t.getD j ByteArray.empty = y at d1 he
                have hne := toList_ne he
                clear hcell2 hcell3 he
                repeat' (first | go_values | go_skip | go_guarded | (with_reducible (first | refine ex_then_ret ?_ | refine ex_then_exit ?_ | refine ex_then_normal ?_ | refine ex_block_ret ?_ | refine ex_block_normal ?_ | refine ex_block_same ?_ | refine ex_block_other (by decide) ?_)) | go_step | go_upon | go_quiet (fail))
                go_ret
                have hB := HBI.out
                exact gives_bool HF.out.symm (by repeat (with_reducible (first | exact Below.refl _ _ | assumption | refine Below.to ?_ (by assumption) | refine below_drewN ?_ _ | refine Below.alloc ?_ (by first | (simp; done) | omega | (simp; omega) | (simp at *; omega)) _ | refine Below.setCell ?_ (by first | (simp; done) | omega | (simp; omega) | (simp at *; omega)) _ | refine Below.drew ?_)))
            · have HX := Lib.hid (show decide (r = t) = true by rw [HAI.out, List.drop_of_length_le (by omega), List.drop_of_length_le (by have := HRT.out; omega)]; simp)
              have HF := Lib.hid (HE.out (of_decide_eq_true HX.out))
              repeat' (first | go_values | go_skip | go_guarded | (with_reducible (first | refine ex_then_ret ?_ | refine ex_then_exit ?_ | refine ex_then_normal ?_ | refine ex_block_ret ?_ | refine ex_block_normal ?_ | refine ex_block_same ?_ | refine ex_block_other (by decide) ?_)) | go_step | go_upon | go_quiet (fail))
              have hB := HBI.out
              exact ⟨⟨k + 1, by omega, by go_num, (by repeat (with_reducible (first | exact Below.refl _ _ | assumption | refine Below.to ?_ (by assumption) | refine below_drewN ?_ _ | refine Below.alloc ?_ (by first | (simp; done) | omega | (simp; omega) | (simp at *; omega)) _ | refine Below.setCell ?_ (by first | (simp; done) | omega | (simp; omega) | (simp at *; omega)) _ | refine Below.drew ?_))), HF.out⟩, by simp [intOf]; omega⟩
        · have hrt3 : ((r.length : Int) != t.length) = true := by simp; omega
          have hrt4 : ((r.length : Int) == t.length) = false := by simp; omega
          have HF := Lib.hid (HN.out (fun h => hrt (by rw [h])))
          repeat' (first | go_values | go_skip | go_guarded | (with_reducible (first | refine ex_then_ret ?_ | refine ex_then_exit ?_ | refine ex_then_normal ?_ | refine ex_block_ret ?_ | refine ex_block_normal ?_ | refine ex_block_same ?_ | refine ex_block_other (by decide) ?_)) | go_step | go_upon | go_quiet (fail))
          go_ret
          exact gives_bool HF.out.symm (by repeat (with_reducible (first | exact Below.refl _ _ | assumption | refine Below.to ?_ (by assumption) | refine below_drewN ?_ _ | refine Below.alloc ?_ (by first | (simp; done) | omega | (simp; omega) | (simp at *; omega)) _ | refine Below.setCell ?_ (by first | (simp; done) | omega | (simp; omega) | (simp at *; omega)) _ | refine Below.drew ?_)))
      · have HT := Lib.hid (show decide (l = m) = true by rw [HA.out, List.drop_of_length_le (by omega), List.drop_of_length_le (by have := HLEN.out; omega)]; simp)
        repeat' (first | go_values | go_skip | go_guarded | (with_reducible (first | refine ex_then_ret ?_ | refine ex_then_exit ?_ | refine ex_then_normal ?_ | refine ex_block_ret ?_ | refine ex_block_normal ?_ | refine ex_block_same ?_ | refine ex_block_other (by decide) ?_)) | go_step | go_upon | go_quiet (fail))
        go_ret
        have hB := HB.out
        exact gives_bool HT.out.symm (by repeat (with_reducible (first | exact Below.refl _ _ | assumption | refine Below.to ?_ (by assumption) | refine below_drewN ?_ _ | refine Below.alloc ?_ (by first | (simp; done) | omega | (simp; omega) | (simp at *; omega)) _ | refine Below.setCell ?_ (by first | (simp; done) | omega | (simp; omega) | (simp at *; omega)) _ | refine Below.drew ?_)))
  · go_enter Tryd.func10, Tryd.ntmps10
    have hlen' : ¬ (l.length : Int) = m.length := by omega
    repeat' (first | go_values | go_skip | go_guarded | (with_reducible (first | refine ex_then_ret ?_ | refine ex_then_exit ?_ | refine ex_then_normal ?_ | refine ex_block_ret ?_ | refine ex_block_normal ?_ | refine ex_block_same ?_ | refine ex_block_other (by decide) ?_)) | go_step | go_upon)
    all_goals go_ret
    all_goals exact gives_bool (by symm; rw [decide_eq_false_iff_not]; intro h; exact hlen (by rw [h])) (by repeat (with_reducible (first | exact Below.refl _ _ | assumption | refine Below.to ?_ (by assumption) | refine below_drewN ?_ _ | refine Below.alloc ?_ (by first | (simp; done) | omega | (simp; omega) | (simp at *; omega)) _ | refine Below.setCell ?_ (by first | (simp; done) | omega | (simp; omega) | (simp at *; omega)) _ | refine Below.drew ?_)))
end Load
end Go.Proofs.YtonhphdoieojfaaDoor
