/- load.unpack, walked. Condition: bytes are as many as a string can have. -/
import Derived.Test.YtonhphdoieojfaaDoorLoadUnpAt
import Derived.WalkKit
import Derived.WalkSpells
import Derived.WalkLawsBesides
import Derived.Lib.Hide
import Derived.BigQuiet
import Derived.Deep.QuietTactic

set_option linter.unusedVariables false
set_option linter.unusedSimpArgs false
namespace Go.Proofs.YtonhphdoieojfaaDoor
open Go.RowKit
namespace Unp
/-- images, or why there are none -/
def Post (w : World) (s : ByteArray) (ev : Ending) (w' : World) : Prop :=
  ∃ lv errv, ev = .returned (.tuple #[lv, errv]) ∧ Below w.heap.size w w' ∧
    ((∃ c, Ld.unpack s.data.toList = .error c ∧ ErrV w' (some c) errv ∧ ∃ a n k, lv = .slice a n k) ∨ ∃ l, Ld.unpack s.data.toList = .ok (Ld.of l) ∧ errv = .nilIface ∧ ImgsAt w' lv l)
theorem infoStr : (Tryd.prog.info? 9).map (fun i => (i.zero, i.size, i.bytes)) = some (some (.string ByteArray.empty), 1, 16) := by kernel_rfl
theorem infoStrs : (Tryd.prog.info? 32).map (fun i => (i.zero, i.size, i.bytes)) = some (some (.slice none 0 0), 1, 24) := by kernel_rfl
theorem cl_start (w : World) (s : ByteArray) : Cl w.heap.size s 0 none (((w.alloc (.cells #[.string s] 9)).alloc (.cells #[.nilIface] 44)).alloc (.cells #[.int .i64 0] 3)) := by
  refine ⟨heap_old (heap_old (heap_new _ _)), ⟨_, heap_old (by have := heap_new (w.alloc (.cells #[.string s] 9)) (.cells #[.nilIface] 44); simpa using this), rfl⟩, ?_⟩
  have := heap_new ((w.alloc (.cells #[.string s] 9)).alloc (.cells #[.nilIface] 44)) (.cells #[.int .i64 0] 3)
  simpa using this
set_option maxHeartbeats 4000000 in
set_option maxRecDepth 100000 in
theorem unpack (s : ByteArray) (w : World) (hs : s.size ≤ 140737488355328) : Calls Tryd.prog 19 #[.string s] w (Post w s) := by
  have H0 := Lib.hid (cl_start w s)
  go_enter Tryd.func19, Tryd.ntmps19
  repeat' (first | go_values | go_skip | go_guarded | (with_reducible (first | refine ex_then_ret ?_ | refine ex_then_exit ?_ | refine ex_then_normal ?_ | refine ex_block_ret ?_ | refine ex_block_normal ?_ | refine ex_block_same ?_ | refine ex_block_other (by decide) ?_)) | go_step | go_upon)
  refine (num_first w.heap.size s _ H0.out hs).mono ?_
  rintro ev w1 ⟨N, p, e, rfl, hN4, hps, hcl, hk1, htold⟩
  have hb1 : Below w.heap.size w w1 := Below.trans (by repeat (with_reducible (first | exact Below.refl _ _ | assumption | refine Below.to ?_ (by assumption) | refine below_drewN ?_ _ | refine Below.alloc ?_ (by first | (simp; done) | omega | (simp; omega) | (simp at *; omega)) _ | refine Below.setCell ?_ (by first | (simp; done) | omega | (simp; omega) | (simp at *; omega)) _ | refine Below.drew ?_))) (hk1.below (by simp; omega))
  have hz1 : w.heap.size + 2 < w1.heap.size := by have := hk1.size; simp at this; omega
  have HO := Lib.hid (show OuterAt w s N (.slice none 0 0) (.int .i64 0) w1 0 p e [] from ⟨Nat.zero_le _, rfl, rfl, hps, hcl, hb1, hz1, World.ownsRow_nil _ _ _ _, (fun _ x hx => by cases hx), htold⟩)
  clear hcl hk1 htold H0
  dsimp only
  repeat' (first | go_values | go_skip | go_guarded | (with_reducible (first | refine ex_then_ret ?_ | refine ex_then_exit ?_ | refine ex_then_normal ?_ | refine ex_block_ret ?_ | refine ex_block_normal ?_ | refine ex_block_same ?_ | refine ex_block_other (by decide) ?_)) | go_step | go_upon)
  go_loopw [7, 13] (fun lv iv wr => Outer w s N lv iv wr) (fun _ iv _ => N - (intOf iv).toNat)
  case atStart => exact ⟨0, p, e, [], HO.out⟩
  case round =>
    clear HO hb1 hz1
    obtain ⟨i, p, e, rs, hrel⟩ := hrel
    have HR := Lib.hid hrel
    obtain ⟨la, lc, rfl⟩ := ownsRow_slice hrel.2.2.2.2.2.2.2.1
    obtain ⟨hi, rfl, hrsl, hps, hcl, hbel, hz, hown, hrows, htold⟩ := hrel
    have HCL := Lib.hid hcl
    have HOWN := Lib.hid hown
    have HROWS := Lib.hid hrows
    have HTOLD := Lib.hid htold
    clear hcl hown hrows htold hrsl
    by_cases hlt : i < N
    · repeat' (first | go_values | go_skip | go_guarded | (with_reducible (first | refine ex_then_ret ?_ | refine ex_then_exit ?_ | refine ex_then_normal ?_ | refine ex_block_ret ?_ | refine ex_block_normal ?_ | refine ex_block_same ?_ | refine ex_block_other (by decide) ?_)) | go_step | go_upon)
      refine (num_row w.heap.size s (N - i - 1) (rs.map (·.2)) p e _ HCL.out hs hps (by rw [show N - i - 1 + 1 = N - i by omega]; exact HTOLD.out)).mono ?_
      rintro ev w2 ⟨n, p2, e2, rfl, hn8, hps2, he2, hcl2, hk2, hgo⟩
      dsimp only
      repeat' (first | go_values | go_skip | go_guarded | (with_reducible (first | refine ex_then_ret ?_ | refine ex_then_exit ?_ | refine ex_then_normal ?_ | refine ex_block_ret ?_ | refine ex_block_normal ?_ | refine ex_block_same ?_ | refine ex_block_other (by decide) ?_)) | go_step | go_upon)
      have hbw : w.heap.size + 2 < w2.heap.size := by have := hk2.size; omega
      have HI : Hid (∃ acc, InnerAt w.heap.size w2.heap.size s n p2 w2 (.slice none 0 0) (.int .i64 0) w2 0 p2 e2 acc) := Lib.hid ⟨[], Nat.zero_le _, rfl, rfl, hps2, hcl2, Kept.refl _ _ _, World.ownsRow_nil _ _ _ _, (fun x hx => by cases hx), by
        match e2, hgo with
        | none, _ => exact (Ld.pre_nil _).symm
        | some c, hgo => exact hgo.1⟩
      have HGO := Lib.hid hgo
      have HK2 := Lib.hid hk2
      have HCL2 := Lib.hid hcl2
      have HE2 := Lib.hid he2
      clear hgo hk2 hcl2 he2
      obtain ⟨wo, rfl⟩ : ∃ wo : World, wo = w2 := ⟨_, rfl⟩
      go_loopw [8, 17] (fun rv jv wr => Inner w.heap.size wo.heap.size s n p2 e2 wo rv jv wr) (fun _ jv _ => n - (intOf jv).toNat)
      case atStart =>
        obtain ⟨acc, h⟩ := HI.out
        exact ⟨0, p2, acc, h⟩
      case round =>
        clear HI
        obtain ⟨j, pr, acc, hrel⟩ := hrel
        have HJ := Lib.hid hrel
        obtain ⟨ra, rc, rfl⟩ := ownsRow_slice hrel.2.2.2.2.2.2.1
        obtain ⟨hj, rfl, hal, hpr, hclr, hkr, hownr, h64, htr⟩ := hrel
        have HCLR := Lib.hid hclr
        have HOR := Lib.hid hownr
        have HTR := Lib.hid htr
        have HKR := Lib.hid hkr
        have HLR := Lib.hid (list_kept HCL2.out hkr (Nat.le_refl _) (list_kept HCL.out HK2.out (Nat.le_refl _) HOWN.out))
        clear hal hclr hkr hownr h64 htr
        by_cases hjt : j < n
        · obtain rfl : e2 = none := by
            cases e2 with
            | none => rfl
            | some c => have := HGO.out.1; omega
          rcases num_str w.heap.size s (n - j - 1) acc pr wr (Ld.strs n (s.data.toList.drop p2)) HCLR.out hs hpr (by rw [show n - j - 1 + 1 = n - j by omega]; exact HTR.out) with ⟨c, hX, hcall⟩ | ⟨hp, h64, hcall⟩
          · have HX := Lib.hid hX
            clear hX
            repeat' (first | go_values | go_skip | go_guarded | (with_reducible (first | refine ex_then_ret ?_ | refine ex_then_exit ?_ | refine ex_then_normal ?_ | refine ex_block_ret ?_ | refine ex_block_normal ?_ | refine ex_block_same ?_ | refine ex_block_other (by decide) ?_)) | go_step | go_upon)
            refine hcall.mono ?_
            rintro ev w3 ⟨rfl, hcl3, hk3⟩
            have HC3 := Lib.hid hcl3
            have HK3 := Lib.hid hk3
            obtain ⟨_, ⟨v3, he3, q3, x3, rfl, _⟩, _⟩ := hcl3
            have c1 : w3.cell? ⟨w.heap.size + 1, 0, none⟩ = some (.iface 64 (.agg #[.int .i64 q3, .iface 52 (.pointer (some ⟨x3, 0, none⟩))])) := heap_cell he3 0
            clear he3 hk3
            dsimp only
            obtain ⟨g, cap, W', hrun, ho', hg', hgg, hgl⟩ := append_one (P := Tryd.prog) (ty := 22) Tryd.underlying22 infoStrs rfl (W := w3) (x := .slice ra j rc) (list_kept HCLR.out HK3.out (Nat.le_refl _) HLR.out) rfl (by omega) (by omega) (by have := HKR.out.size; have := HK3.out.size; omega)
            have HGR := Lib.hid hg'
            have HO2 := Lib.hid ho'
            have HRUN := Lib.hid hrun
            clear hg' ho' hrun
            repeat' (first | (at_builtin; refine wpList_append_run _ rfl _ _ _ _ rfl _ _ rfl rfl _ _ HRUN.out ?_) | go_values | go_skip | go_guarded | (with_reducible (first | refine ex_then_ret ?_ | refine ex_then_exit ?_ | refine ex_then_normal ?_ | refine ex_block_ret ?_ | refine ex_block_normal ?_ | refine ex_block_same ?_ | refine ex_block_other (by decide) ?_)) | go_step | go_upon)
            have hsz0 := HKR.out.size
            exact ⟨outer_next (r := acc) HR.out hlt HK2.out ⟨_, _, HCL2.out⟩ (HKR.out.trans (HK3.out.mono hsz0)) HC3.out hpr (fun he => by cases he) (round_bad HGO.out HX.out) HO2.out HGR.out, by simp [intOf]; omega⟩
          · have hx255 : (s[pr].toNat : Int) ≤ 64 := by omega
            repeat' (first | go_values | go_skip | go_guarded | (with_reducible (first | refine ex_then_ret ?_ | refine ex_then_exit ?_ | refine ex_then_normal ?_ | refine ex_block_ret ?_ | refine ex_block_normal ?_ | refine ex_block_same ?_ | refine ex_block_other (by decide) ?_)) | go_step | go_upon)
            refine hcall.mono ?_
            rintro ev w3 ⟨rfl, hcl3, hk3⟩
            have HC3 := Lib.hid hcl3
            have HK3 := Lib.hid hk3
            obtain ⟨h30, ⟨v3, h31, rfl⟩, h32⟩ := hcl3
            have c1 : w3.cell? ⟨w.heap.size + 1, 0, none⟩ = some .nilIface := heap_cell h31 0
            have c0 : w3.cell? ⟨w.heap.size, 0, none⟩ = some (.string s) := heap_cell h30 0
            have c2 : w3.cell? ⟨w.heap.size + 1 + 1, 0, none⟩ = some (.int .i64 ((pr + 1 : Nat) : Int)) := heap_cell h32 0
            have f1 : w3.frozen? ⟨w.heap.size + 1, 0, none⟩ = false := Lib.frozen_of_heap h31 0
            have hl3 : w.heap.size + 1 + 1 < w3.heap.size := heap_lt h32
            have hl3' : w.heap.size + 1 < w3.heap.size := by omega
            have hl3'' : w.heap.size < w3.heap.size := by omega
            clear h30 h31 h32 hk3
            dsimp only
            by_cases hshort : s.size - (pr + 1) < s[pr].toNat
            · have hsI : ((s.size : Int) - ((pr + 1 : Nat) : Int)) < (s[pr].toNat : Int) := by omega
              obtain ⟨hc4, hk4⟩ := cl_fail HC3.out 2 ((pr : Int) + 1) 2 rfl
              have HC4 := Lib.hid hc4
              have HK4 := Lib.hid hk4
              have HSH := Lib.hid (Ld.strs_short (k := n - j - 1) (X := Ld.strs n (s.data.toList.drop p2)) (by rw [show n - j - 1 + 1 = n - j by omega]; exact HTR.out) hp (by omega) hshort)
              clear hc4 hk4
              obtain ⟨g, cap, W', hrun, ho', hg', hgg, hgl⟩ := append_one (P := Tryd.prog) (ty := 22) Tryd.underlying22 infoStrs rfl (W := ((w3.setCell ⟨w.heap.size + 1, 0, none⟩ (.iface 64 (.agg #[.int .i64 ((pr : Int) + 1), .iface 52 (.pointer (some ⟨w3.heap.size, 0, none⟩))]))).alloc (.cells #[.int .i64 2] 56))) (x := .slice ra j rc) (list_kept HC3.out HK4.out (Nat.le_refl _) (list_kept HCLR.out HK3.out (Nat.le_refl _) HLR.out)) rfl (by omega) (by omega) (by have := HKR.out.size; have := HK3.out.size; have := HK4.out.size; omega)
              have hsz4 : ((w3.setCell ⟨w.heap.size + 1, 0, none⟩ (.iface 64 (.agg #[.int .i64 ((pr : Int) + 1), .iface 52 (.pointer (some ⟨w3.heap.size, 0, none⟩))]))).alloc (.cells #[.int .i64 2] 56)).heap.size = w3.heap.size + 1 := by simp
              rw [hsz4] at hrun
              have HGR := Lib.hid hg'
              have HO2 := Lib.hid ho'
              have HRUN := Lib.hid hrun
              clear hg' ho' hrun
              repeat' (first | (at_builtin; refine wpList_append_run _ rfl _ _ _ _ rfl _ _ rfl rfl _ _ HRUN.out ?_) | go_values | go_skip | go_guarded | (with_reducible (first | refine ex_then_ret ?_ | refine ex_then_exit ?_ | refine ex_then_normal ?_ | refine ex_block_ret ?_ | refine ex_block_normal ?_ | refine ex_block_same ?_ | refine ex_block_other (by decide) ?_)) | go_step | go_upon | go_quiet (fail))
              have hsz0 := HKR.out.size
              have hsz1 := HK3.out.size
              exact ⟨outer_next (r := acc) HR.out hlt HK2.out ⟨_, _, HCL2.out⟩ ((HKR.out.trans (HK3.out.mono hsz0)).trans (HK4.out.mono (by omega))) HC4.out (by omega) (fun he => by cases he) (round_bad HGO.out HSH.out) HO2.out HGR.out, by simp [intOf]; omega⟩
            · have hsI : ¬ ((s.size : Int) - ((pr + 1 : Nat) : Int)) < (s[pr].toNat : Int) := by omega
              have HOW3 := Lib.hid (own_kept hbw HK3.out HOR.out)
              obtain ⟨g, cap, W', hrun, ho', hg', hgg, hgl⟩ := append_one (P := Tryd.prog) (ty := 32) Tryd.underlying32 infoStr rfl (W := w3) (x := .string (s.extract (pr + 1) (pr + 1 + s[pr].toNat))) HOW3.out rfl (by omega) (by omega) (by have := HKR.out.size; have := HK3.out.size; omega)
              obtain ⟨hc4, hb4⟩ := cl_append HC3.out hbw (by have := HKR.out.size; have := HK3.out.size; omega) HOW3.out hg'
              have HC4 := Lib.hid hc4
              have HB4 := Lib.hid hb4
              have HO2 := Lib.hid ho'
              have HRUN := Lib.hid hrun
              obtain ⟨h40, ⟨v4, h41, rfl⟩, h42⟩ := hc4
              have d1 : W'.cell? ⟨w.heap.size + 1, 0, none⟩ = some .nilIface := heap_cell h41 0
              have d0 : W'.cell? ⟨w.heap.size, 0, none⟩ = some (.string s) := heap_cell h40 0
              have d2 : W'.cell? ⟨w.heap.size + 1 + 1, 0, none⟩ = some (.int .i64 ((pr + 1 : Nat) : Int)) := heap_cell h42 0
              have g2 : W'.frozen? ⟨w.heap.size + 1 + 1, 0, none⟩ = false := Lib.frozen_of_heap h42 0
              clear hg' ho' hrun hb4 h40 h41 h42
              repeat' (first | (at_builtin; refine wpList_append_run _ rfl _ _ _ _ rfl _ _ rfl rfl _ _ HRUN.out ?_) | go_values | go_skip | go_guarded | (with_reducible (first | refine ex_then_ret ?_ | refine ex_then_exit ?_ | refine ex_then_normal ?_ | refine ex_block_ret ?_ | refine ex_block_normal ?_ | refine ex_block_same ?_ | refine ex_block_other (by decide) ?_)) | go_step | go_upon | go_quiet (fail))
              have hsz0 := HKR.out.size
              exact ⟨inner_next HJ.out hbw hsz0 hjt hp h64 hshort HK3.out HC4.out HB4.out HO2.out (by omega), by simp [intOf]; omega⟩
        · obtain rfl : j = n := by omega
          obtain ⟨g, cap, W', hrun, ho', hg', hgg, hgl⟩ := append_one (P := Tryd.prog) (ty := 22) Tryd.underlying22 infoStrs rfl (W := wr) (x := .slice ra j rc) (HLR.out) rfl (by omega) (by omega) (by have := HKR.out.size; omega)
          have HGR := Lib.hid hg'
          have HO2 := Lib.hid ho'
          have HRUN := Lib.hid hrun
          clear hg' ho' hrun
          repeat' (first | (at_builtin; refine wpList_append_run _ rfl _ _ _ _ rfl _ _ rfl rfl _ _ HRUN.out ?_) | go_values | go_skip | go_guarded | (with_reducible (first | refine ex_then_ret ?_ | refine ex_then_exit ?_ | refine ex_then_normal ?_ | refine ex_block_ret ?_ | refine ex_block_normal ?_ | refine ex_block_same ?_ | refine ex_block_other (by decide) ?_)) | go_step | go_upon)
          exact ⟨outer_next HR.out hlt HK2.out ⟨_, _, HCL2.out⟩ HKR.out HCLR.out hpr (fun he => ⟨HE2.out he, by rw [HJ.out.2.2.1]; exact HOR.out, HJ.out.2.2.2.2.2.2.2.1⟩) (round_told HGO.out HTR.out) HO2.out HGR.out, by simp [intOf]; omega⟩
    · obtain rfl : i = N := by omega
      have hsub : i - i = 0 := by omega
      match e, HR, HCL, HROWS, HTOLD with
      | some c, HR, HCL, _, HTOLD =>
        obtain ⟨h0, ⟨v1, h1, q1, x1, rfl, hx1⟩, h2⟩ := HCL.out
        have c1 : wr.cell? ⟨w.heap.size + 1, 0, none⟩ = some (.iface 64 (.agg #[.int .i64 q1, .iface 52 (.pointer (some ⟨x1, 0, none⟩))])) := heap_cell h1 0
        have HX1 := Lib.hid hx1
        clear h0 h1 h2 hx1
        repeat' (first | go_values | go_skip | go_guarded | (with_reducible (first | refine ex_then_ret ?_ | refine ex_then_exit ?_ | refine ex_then_normal ?_ | refine ex_block_ret ?_ | refine ex_block_normal ?_ | refine ex_block_same ?_ | refine ex_block_other (by decide) ?_)) | go_step | go_upon | go_quiet (fail))
        go_ret2
        exact ⟨_, _, rfl, below_drewN hbel _, .inl ⟨c, HTOLD.out, ⟨q1, x1, rfl, HX1.out⟩, _, _, _, rfl⟩⟩
      | none, HR, HCL, HROWS, HTOLD =>
        obtain ⟨h0, ⟨v1, h1, rfl⟩, h2⟩ := HCL.out
        have c1 : wr.cell? ⟨w.heap.size + 1, 0, none⟩ = some .nilIface := heap_cell h1 0
        have c0 : wr.cell? ⟨w.heap.size, 0, none⟩ = some (.string s) := heap_cell h0 0
        have c2 : wr.cell? ⟨w.heap.size + 1 + 1, 0, none⟩ = some (.int .i64 (p : Int)) := heap_cell h2 0
        have f1 : wr.frozen? ⟨w.heap.size + 1, 0, none⟩ = false := Lib.frozen_of_heap h1 0
        have hl1 : w.heap.size + 1 < wr.heap.size := by omega
        clear h0 h1 h2
        by_cases hp : p < s.size
        · have hpI : (p : Int) < s.size := by omega
          obtain ⟨hc4, hk4⟩ := cl_fail HCL.out 3 (p : Int) 3 rfl
          have HC4 := Lib.hid hc4
          have HK4 := Lib.hid hk4
          clear hc4 hk4
          repeat' (first | go_values | go_skip | go_guarded | (with_reducible (first | refine ex_then_ret ?_ | refine ex_then_exit ?_ | refine ex_then_normal ?_ | refine ex_block_ret ?_ | refine ex_block_normal ?_ | refine ex_block_same ?_ | refine ex_block_other (by decide) ?_)) | go_step | go_upon | go_quiet (fail))
          go_ret2
          have hT : Ld.unpack s.data.toList = .error 3 := Ld.rows_left (by have := HTOLD.out; rw [hsub] at this; exact this) hp
          have hnew := heap_new (wr.setCell ⟨w.heap.size + 1, 0, none⟩ (.iface 64 (.agg #[.int .i64 (p : Int), .iface 52 (.pointer (some ⟨wr.heap.size, 0, none⟩))]))) (.cells #[.int .i64 3] 56)
          have hsz : (wr.setCell ⟨w.heap.size + 1, 0, none⟩ (.iface 64 (.agg #[.int .i64 (p : Int), .iface 52 (.pointer (some ⟨wr.heap.size, 0, none⟩))]))).heap.size = wr.heap.size := by simp [World.setCell]
          rw [hsz] at hnew
          exact ⟨_, _, rfl, below_drewN (hbel.trans (HK4.out.below (by omega))) _, .inl ⟨3, hT, ⟨(p : Int), wr.heap.size, rfl, hnew⟩, _, _, _, rfl⟩⟩
        · have hpI : ¬ (p : Int) < s.size := by omega
          repeat' (first | go_values | go_skip | go_guarded | (with_reducible (first | refine ex_then_ret ?_ | refine ex_then_exit ?_ | refine ex_then_normal ?_ | refine ex_block_ret ?_ | refine ex_block_normal ?_ | refine ex_block_same ?_ | refine ex_block_other (by decide) ?_)) | go_step | go_upon | go_quiet (fail))
          go_ret2
          have hT : Ld.unpack s.data.toList = .ok (Ld.of (rs.map (·.2))) := Ld.rows_end (by have := HTOLD.out; rw [hsub] at this; exact this) (by omega)
          have hfit := (Ld.fits_iff _).1 (Ld.unpack_ok hT).1
          have hI : ImgsAt wr (.slice la i lc) (rs.map (·.2)) := imgs_of HR.out.2.2.1 (by omega) HOWN.out (HROWS.out rfl) (fun x hx => by
            have := ((Ld.okRow_iff _).1 (hfit.2 x.2 (List.mem_map.mpr ⟨x, hx, rfl⟩))).1
            rw [Ld.row, List.length_map] at this
            omega)
          exact ⟨_, _, rfl, below_drewN hbel _, .inr ⟨rs.map (·.2), hT, rfl, hI.below (below_drewN (Below.refl _ _) _)⟩⟩
end Unp
end Go.Proofs.YtonhphdoieojfaaDoor
