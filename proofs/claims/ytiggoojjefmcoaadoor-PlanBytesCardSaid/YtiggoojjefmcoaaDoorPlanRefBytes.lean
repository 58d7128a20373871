/- transomref05.num and Bytes: a plan's bytes. Condition: a frame is an integer. -/
import Derived.Test.YtiggoojjefmcoaaDoorPlanBytes
import Derived.Test.YtiggoojjefmcoaaDoorPlanWalkD
import Derived.Deep.RegionHeld3
import Derived.WalkKit
import Derived.WalkSpells
import Derived.WalkLawsBesides
import Derived.Lib.Hide
import Derived.BigQuiet
import Derived.Deep.QuietTactic

set_option linter.unusedVariables false
set_option linter.unusedSimpArgs false
namespace Go.Proofs.YtiggoojjefmcoaaDoor
open Go.RowKit
namespace RfB
/-- a number's two bytes -/
def two (n : Int) : ByteArray := ⟨(Pl.b2 n).toArray⟩
theorem u8_back (v : Int) (v0 : 0 ≤ v) (v1 : v < 256) : ((UInt8.ofNat v.toNat).toNat : Int) = v := by
  rw [UInt8.toNat_ofNat']
  omega
theorem back2 (w : World) (n : Int) (h0 : 0 ≤ n) (h1 : n < 65536) :
    (convert 50 9 (.slice (some ⟨w.heap.size, 0, none⟩) 2 2)).run Tryd.prog (w.alloc (.cells #[.int .u8 (n / 256), .int .u8 (n % 256)] 5)) = .ok (.string (two n)) (w.alloc (.cells #[.int .u8 (n / 256), .int .u8 (n % 256)] 5)) := by
  refine run_convert_bytes_back (P := Tryd.prog) _ _ _ 5 ⟨w.heap.size, 0, none⟩ 2 (Pl.b2 n) Tryd.underlying50 Tryd.underlying5 Tryd.underlying9 fun j hj => ?_
  have hj1 : j < 2 := hj
  have ha : (⟨w.heap.size, 0, none⟩ : Addr).add j = ⟨w.heap.size, j, none⟩ := by unfold Addr.add; split <;> simp_all
  rw [ha, World.cell?_alloc_mark]
  obtain rfl | rfl : j = 0 ∨ j = 1 := by omega
  · show _ = some (Value.int .u8 ((UInt8.ofNat (n / 256).toNat).toNat : Int))
    rw [u8_back _ (by omega) (by omega)]
    rfl
  · show _ = some (Value.int .u8 ((UInt8.ofNat (n % 256).toNat).toNat : Int))
    rw [u8_back _ (by omega) (by omega)]
    rfl
set_option maxHeartbeats 1000000 in
set_option maxRecDepth 100000 in
theorem num (n : Int) (w : World) (h0 : 0 ≤ n) (h1 : n < 65536) : Calls Tryd.prog 23 #[.int .i64 n] w (Gives (.string (two n)) w) := by
  have hb := back2 w n h0 h1
  go_enter Tryd.func23, Tryd.ntmps23
  repeat' (first | go_values | go_skip | go_guarded | (with_reducible (first | refine ex_then_ret ?_ | refine ex_then_exit ?_ | refine ex_then_normal ?_ | refine ex_block_ret ?_ | refine ex_block_normal ?_ | refine ex_block_same ?_ | refine ex_block_other (by decide) ?_)) | go_step | go_upon | go_quiet (fail))
  go_ret
  exact ⟨rfl, (by repeat (with_reducible (first | exact Below.refl _ _ | assumption | refine Below.to ?_ (by assumption) | refine below_drewN ?_ _ | refine Below.alloc ?_ (by first | (simp; done) | omega | (simp; omega) | (simp at *; omega)) _ | refine Below.setCell ?_ (by first | (simp; done) | omega | (simp; omega) | (simp at *; omega)) _ | refine Below.drew ?_)))⟩
/-- the plan, where the call keeps it -/
structure On (w : World) (fr : Int) (ap aw ac : Value) (W : World) : Prop where
  bel : Below w.heap.size w W
  a : Plan.PlanCell W w.heap.size ap fr aw ac
theorem On.below {w W W' : World} {fr : Int} {ap aw ac : Value} (h : On w fr ap aw ac W) (hb : Below W.heap.size W W') : On w fr ap aw ac W' :=
  ⟨h.bel.trans (hb.mono h.bel.size), h.a.below hb⟩
/-- the head of a loop: the bytes of the numbers so far -/
def StrAt (w : World) (P : Pl.Plan) (ap aw ac : Value) (n : Nat) (f : Nat → List Int) (sv v : Value) (wr : World) : Prop :=
  ∃ (k : Nat) (t : ByteArray), k ≤ n ∧ v = .int .i64 k ∧ sv = .string t ∧ t.data.toList = Pl.enc (f k) ∧ On w P.fr ap aw ac wr
theorem drew_size (w : World) : w.drew.heap.size = w.heap.size := rfl
theorem two_size (n : Int) : (two n).size = 2 := rfl
theorem two_list (n : Int) : (two n).data.toList = Pl.b2 n := rfl
theorem cat_list (s t : ByteArray) : (s ++ t).data.toList = s.data.toList ++ t.data.toList := by rw [ByteArray.data_append, Array.toList_append]
theorem start1 (P : Pl.Plan) : ((⟨#[84, 80]⟩ : ByteArray) ++ two P.ps.length).data.toList = Pl.enc (Pl.nums1 P 0) := by
  rw [cat_list, two_list, ← Pl.enc1_zero]
  simp
theorem str_size {t : ByteArray} {l : List Int} {n : Nat} (h : t.data.toList = Pl.enc l) (hl : l.length ≤ n) : t.size ≤ 2 + 2 * n := by
  have h1 : t.size = t.data.toList.length := (Array.length_toList (xs := t.data)).symm
  have h2 := Pl.enc_length l
  rw [h1, h]
  omega
theorem cat4 {t : ByteArray} {l : List Int} {r : List Int} {L : List UInt8} (h : t.data.toList = Pl.enc l) (hn : Pl.enc l ++ (Pl.r4 r).flatMap Pl.b2 = L) : (t ++ two (Pl.g r 0) ++ two (Pl.g r 1) ++ two (Pl.g r 2) ++ two (Pl.g r 3)).data.toList = L := by
  simp only [cat_list, two_list, h, ← hn, Pl.r4, List.flatMap_cons, List.flatMap_nil, List.append_assoc, List.append_nil]
theorem cat3 {t : ByteArray} {l : List Int} {r : List Int} {L : List UInt8} (h : t.data.toList = Pl.enc l) (hn : Pl.enc l ++ (Pl.r3 r).flatMap Pl.b2 = L) : (t ++ two (Pl.g r 0) ++ two (Pl.g r 1) ++ two (Pl.g r 2)).data.toList = L := by
  simp only [cat_list, two_list, h, ← hn, Pl.r3, List.flatMap_cons, List.flatMap_nil, List.append_assoc, List.append_nil]
theorem cat5 {t : ByteArray} {l : List Int} {r : List Int} {L : List UInt8} (h : t.data.toList = Pl.enc l) (hn : Pl.enc l ++ (Pl.r5 r).flatMap Pl.b2 = L) : (t ++ two (Pl.g r 0) ++ two (Pl.g r 1) ++ two (Pl.g r 2) ++ two (Pl.g r 3) ++ two (Pl.g r 4)).data.toList = L := by
  simp only [cat_list, two_list, h, ← hn, Pl.r5, List.flatMap_cons, List.flatMap_nil, List.append_assoc, List.append_nil]
theorem cat1 {t : ByteArray} {l : List Int} {n : Int} {L : List UInt8} (h : t.data.toList = Pl.enc l) (hn : Pl.enc l ++ [n].flatMap Pl.b2 = L) : (t ++ two n).data.toList = L := by
  simp only [cat_list, two_list, h, ← hn, List.flatMap_cons, List.flatMap_nil, List.append_nil]
theorem cat2 {t : ByteArray} {l : List Int} {m n : Int} {L : List UInt8} (h : t.data.toList = Pl.enc l) (hn : Pl.enc l ++ [m, n].flatMap Pl.b2 = L) : (t ++ two m ++ two n).data.toList = L := by
  simp only [cat_list, two_list, h, ← hn, List.flatMap_cons, List.flatMap_nil, List.append_assoc, List.append_nil]
set_option maxHeartbeats 20000000 in
set_option maxRecDepth 100000 in
theorem Bytes (v : Value) (P : Pl.Plan) (w : World) (h : PlanAt w v P) (hfr : P.fr ≤ 9223372036854775807) (HC : Hid (∀ W, Below w.heap.size w W → Calls Tryd.prog 13 #[v] W (Gives (.int .i64 (Pl.check P)) W))) :
    Calls Tryd.prog 9 #[v] w (Gives (.tuple #[.string (Pl.bytesS P), .int .i64 (Pl.check P)]) w) := by
  obtain ⟨up, uw, uc, rfl, hup, huw, huc⟩ := h
  have HP := Lib.hid hup
  have HW := Lib.hid huw
  have HCH := Lib.hid huc
  obtain ⟨a1, c1, rfl, n1, _⟩ := hup
  obtain ⟨a2, c2, rfl, n2, _⟩ := huw
  obtain ⟨a3, c3, rfl, n3, _⟩ := huc
  by_cases h0 : Pl.check P = 0
  · have H0 := Lib.hid h0
    obtain ⟨f1, f2, f3, f4, f5, f6, f7, _⟩ := Pl.check_zero h0
    clear h0
    go_enter Tryd.func9, Tryd.ntmps9
    repeat' (first
      | (go_at_call 13; refine (HC.out _ (by repeat (with_reducible (first | exact Below.refl _ _ | assumption | refine Below.to ?_ (by assumption) | refine below_drewN ?_ _ | refine Below.alloc ?_ (by first | (simp; done) | omega | (simp; omega) | (simp at *; omega)) _ | refine Below.setCell ?_ (by first | (simp; done) | omega | (simp; omega) | (simp at *; omega)) _ | refine Below.drew ?_)))).mono ?_; rintro e w1 ⟨rfl, hb1⟩; clear HC; obtain ⟨hc1, hf1, hz1⟩ := bfacts hb1; try (simp at hz1); have y1 : w.heap.size < w1.heap.size := (by omega); rw [H0.out]; dsimp only)
      | (go_at_call 23; refine (num _ _ (by omega) (by omega)).mono ?_; rintro e w2 ⟨rfl, hb2⟩; obtain ⟨hc2, hf2, hz2⟩ := bfacts hb2; have y2 : w.heap.size < w2.heap.size := (by omega); dsimp only)
      | go_values | go_skip | go_guarded | (with_reducible (first | refine ex_then_ret ?_ | refine ex_then_exit ?_ | refine ex_then_normal ?_ | refine ex_block_ret ?_ | refine ex_block_normal ?_ | refine ex_block_same ?_ | refine ex_block_other (by decide) ?_)) | go_step | go_upon | go_quiet (fail))
    have hB1 : Below w.heap.size w w2 := (by repeat (with_reducible (first | exact Below.refl _ _ | assumption | refine Below.to ?_ (by assumption) | refine below_drewN ?_ _ | refine Below.alloc ?_ (by first | (simp; done) | omega | (simp; omega) | (simp at *; omega)) _ | refine Below.setCell ?_ (by first | (simp; done) | omega | (simp; omega) | (simp at *; omega)) _ | refine Below.drew ?_)))
    have hPC : Plan.PlanCell w2 w.heap.size (.slice a1 P.ps.length c1) P.fr (.slice a2 P.ws.length c2) (.slice a3 P.cs.length c3) := ⟨by omega, by go_simp, by go_simp, by go_simp, by go_simp⟩
    have HON := Lib.hid (On.mk hB1 hPC)
    go_loopw [5, 6] (fun sv v wr => StrAt w P (.slice a1 P.ps.length c1) (.slice a2 P.ws.length c2) (.slice a3 P.cs.length c3) P.ps.length (fun k => Pl.nums1 P k) sv v wr) (fun _ v _ => P.ps.length - (intOf v).toNat)
    case atStart => exact ⟨0, _, Nat.zero_le _, rfl, rfl, start1 P, HON.out⟩
    case round =>
      clear HON hB1 hPC hb1 hb2 hc1 hc2 hf1 hf2 hz1 hz2 y1 y2
      obtain ⟨k, t, hk, rfl, rfl, ht, hon⟩ := hrel
      have HT := Lib.hid ht
      have HON := Lib.hid hon
      have HBl := Lib.hid hon.bel
      have htz := str_size ht (Pl.nums1_length H0.out k)
      obtain ⟨hbs, ⟨ha0, ha1, ha2, ha3, ha4⟩⟩ := hon
      clear ht
      by_cases hlt : k < P.ps.length
      · obtain ⟨a', c', hav, _, hnil | ⟨b, off, rfl, hbl, hcell⟩⟩ := HP.out
        · rw [hnil] at hlt; exact absurd hlt (Nat.not_lt_zero _)
        cases hav
        have at_ := fun i hi => (HBl.out.cell (p := ⟨b, off + k * 4 + i, none⟩) hbl).trans (hcell k i hlt hi)
        have d0 := at_ 0 (by omega)
        have d1 := at_ 1 (by omega)
        have d2 := at_ 2 (by omega)
        have d3 := at_ 3 (by omega)
        rw [Nat.add_zero] at d0
        have hsm := Pl.small4 H0.out hlt
        have HNX := Lib.hid (Pl.enc1_next hlt)
        obtain ⟨r, hr⟩ : ∃ r, P.ps.getD k [] = r := ⟨_, rfl⟩
        rw [hr] at d0 d1 d2 d3 hsm HNX
        have s0 := hsm (Pl.g r 0) (by simp [Pl.r4])
        have s1 := hsm (Pl.g r 1) (by simp [Pl.r4])
        have s2 := hsm (Pl.g r 2) (by simp [Pl.r4])
        have s3 := hsm (Pl.g r 3) (by simp [Pl.r4])
        clear at_ hcell hr hsm
        have hts := two_size
        have z1 : ¬ 9223372036854775807 < t.size + 2 := by omega
        have z2 : ¬ 9223372036854775807 < t.size + 2 + 2 := by omega
        have z3 : ¬ 9223372036854775807 < t.size + 2 + 2 + 2 := by omega
        have z4 : ¬ 9223372036854775807 < t.size + 2 + 2 + 2 + 2 := by omega
        have z5 : ¬ 9223372036854775807 < t.size + 2 + 2 + 2 + 2 + 2 := by omega
        repeat' (first | go_values | go_skip | go_guarded | (with_reducible (first | refine ex_then_ret ?_ | refine ex_then_exit ?_ | refine ex_then_normal ?_ | refine ex_block_ret ?_ | refine ex_block_normal ?_ | refine ex_block_same ?_ | refine ex_block_other (by decide) ?_)) | go_step | go_upon)
        go_region_held3 (fun W => Below wr.heap.size wr W ∧ wr.heap.size < W.heap.size ∧ W.cell? ⟨wr.heap.size, 0, none⟩ = some (.int .i64 (Pl.g r 0)) ∧ W.cell? ⟨wr.heap.size, 1, none⟩ = some (.int .i64 (Pl.g r 1)) ∧ W.cell? ⟨wr.heap.size, 2, none⟩ = some (.int .i64 (Pl.g r 2)) ∧ W.cell? ⟨wr.heap.size, 3, none⟩ = some (.int .i64 (Pl.g r 3))) ((refine ⟨(by repeat (with_reducible (first | exact Below.refl _ _ | assumption | refine Below.to ?_ (by assumption) | refine below_drewN ?_ _ | refine Below.alloc ?_ (by first | (simp; done) | omega | (simp; omega) | (simp at *; omega)) _ | refine Below.setCell ?_ (by first | (simp; done) | omega | (simp; omega) | (simp at *; omega)) _ | refine Below.drew ?_))), (by first | (simp; done) | omega | (simp; omega) | (simp at *; omega)), ?_⟩; go_keep))
          (first | (go_at_call 23; refine (num _ _ ?_ ?_).mono ?_; omega; omega; rintro e w3 ⟨rfl, hb3⟩; obtain ⟨hc3, hf3, hz3⟩ := bfacts hb3; (try rw [drew_size] at hz3)))
        all_goals
          repeat' (first | go_values | go_skip | go_guarded | (with_reducible (first | refine ex_then_ret ?_ | refine ex_then_exit ?_ | refine ex_then_normal ?_ | refine ex_block_ret ?_ | refine ex_block_normal ?_ | refine ex_block_same ?_ | refine ex_block_other (by decide) ?_)) | go_step | go_upon | go_quiet (fail))
          exact ⟨⟨k + 1, _, by omega, by go_num, rfl, cat4 HT.out HNX.out, HON.out.below (by repeat (with_reducible (first | exact Below.refl _ _ | assumption | refine Below.to ?_ (by assumption) | refine below_drewN ?_ _ | refine Below.alloc ?_ (by first | (simp; done) | omega | (simp; omega) | (simp at *; omega)) _ | refine Below.setCell ?_ (by first | (simp; done) | omega | (simp; omega) | (simp at *; omega)) _ | refine Below.drew ?_)))⟩, by simp [intOf]; omega⟩
      · have ht := HT.out
        obtain rfl : k = P.ps.length := by omega
        have HT2 := Lib.hid (cat2 ht (Pl.enc2_of P))
        have s0 : 0 ≤ P.fr ∧ P.fr < 65536 := by omega
        have s1 : (0 : Int) ≤ P.ws.length ∧ (P.ws.length : Int) < 65536 := by omega
        have hts := two_size
        have z1 : ¬ 9223372036854775807 < t.size + 2 := by omega
        have z2 : ¬ 9223372036854775807 < t.size + 2 + 2 := by omega
        have z3 : ¬ 9223372036854775807 < t.size + 2 + 2 + 2 := by omega
        have z4 : ¬ 9223372036854775807 < t.size + 2 + 2 + 2 + 2 := by omega
        have z5 : ¬ 9223372036854775807 < t.size + 2 + 2 + 2 + 2 + 2 := by omega
        repeat' (first | go_values | go_skip | go_guarded | (with_reducible (first | refine ex_then_ret ?_ | refine ex_then_exit ?_ | refine ex_then_normal ?_ | refine ex_block_ret ?_ | refine ex_block_normal ?_ | refine ex_block_same ?_ | refine ex_block_other (by decide) ?_)) | go_step | go_upon)
        go_region_held3 (fun W => Below wr.heap.size wr W ∧ w.heap.size < W.heap.size ∧ W.cell? ⟨w.heap.size, 1, none⟩ = some (.int .i64 P.fr) ∧ W.cell? ⟨w.heap.size, 2, none⟩ = some (.slice a2 P.ws.length c2)) ((refine ⟨(by repeat (with_reducible (first | exact Below.refl _ _ | assumption | refine Below.to ?_ (by assumption) | refine below_drewN ?_ _ | refine Below.alloc ?_ (by first | (simp; done) | omega | (simp; omega) | (simp at *; omega)) _ | refine Below.setCell ?_ (by first | (simp; done) | omega | (simp; omega) | (simp at *; omega)) _ | refine Below.drew ?_))), (by first | (simp; done) | omega | (simp; omega) | (simp at *; omega)), ?_⟩; go_keep))
          (first | (go_at_call 23; refine (num _ _ ?_ ?_).mono ?_; omega; omega; rintro e w3 ⟨rfl, hb3⟩; (have hbd : Below wr.heap.size wr w3 := (by repeat (with_reducible (first | exact Below.refl _ _ | assumption | refine Below.to ?_ (by assumption) | refine below_drewN ?_ _ | refine Below.alloc ?_ (by first | (simp; done) | omega | (simp; omega) | (simp at *; omega)) _ | refine Below.setCell ?_ (by first | (simp; done) | omega | (simp; omega) | (simp at *; omega)) _ | refine Below.drew ?_)))); (have hzd := hbd.size); (have hcd := (bfacts hbd).1)))
        all_goals
          repeat' (first | go_values | go_skip | go_guarded | (with_reducible (first | refine ex_then_ret ?_ | refine ex_then_exit ?_ | refine ex_then_normal ?_ | refine ex_block_ret ?_ | refine ex_block_normal ?_ | refine ex_block_same ?_ | refine ex_block_other (by decide) ?_)) | go_step | go_upon | go_quiet (fail))
          clear ha0 ha1 ha2 ha3 ha4 hbs
          go_loopw [5, 8] (fun sv v wr => StrAt w P (.slice a1 P.ps.length c1) (.slice a2 P.ws.length c2) (.slice a3 P.cs.length c3) P.ws.length (fun k => Pl.nums3 P k) sv v wr) (fun _ v _ => P.ws.length - (intOf v).toNat)
          case atStart => exact ⟨0, _, Nat.zero_le _, rfl, rfl, HT2.out.trans (Pl.enc3_zero P), HON.out.below (by repeat (with_reducible (first | exact Below.refl _ _ | assumption | refine Below.to ?_ (by assumption) | refine below_drewN ?_ _ | refine Below.alloc ?_ (by first | (simp; done) | omega | (simp; omega) | (simp at *; omega)) _ | refine Below.setCell ?_ (by first | (simp; done) | omega | (simp; omega) | (simp at *; omega)) _ | refine Below.drew ?_)))⟩
          case round =>
            clear HON HBl HT HT2 s0 s1 htz
            obtain ⟨k, t, hk, rfl, rfl, ht, hon⟩ := hrel
            have HT := Lib.hid ht
            have HON := Lib.hid hon
            have HBl := Lib.hid hon.bel
            have htz := str_size ht (Pl.nums3_length H0.out k)
            obtain ⟨hbs, ⟨ha0, ha1, ha2, ha3, ha4⟩⟩ := hon
            clear ht
            by_cases hlt : k < P.ws.length
            · obtain ⟨a', c', hav, hn', hnil | ⟨b, off, rfl, hbl, hcell⟩⟩ := HW.out
              · rw [hnil] at hlt; exact absurd hlt (Nat.not_lt_zero _)
              obtain ⟨u, hu, hrow⟩ := hcell k hlt
              cases hav
              have HROW := Lib.hid hrow
              have h8 := Pl.len8 H0.out hlt
              have HNX := Lib.hid (Pl.enc3_next hlt)
              have HST := Lib.hid (Pl.enc3'_zero P k (P.ws.getD k []))
              have HSM := Lib.hid (fun j hj => Pl.small3 (j := j) H0.out hlt hj)
              have HLN := Lib.hid (fun j => Pl.nums3'_length H0.out k h8 j)
              obtain ⟨row, hrow2⟩ : ∃ row, P.ws.getD k [] = row := ⟨_, rfl⟩
              rw [hrow2] at hrow HROW h8 HNX HST HSM HLN
              clear hrow2
              obtain ⟨a4, c4, rfl, n4, _⟩ := hrow
              have HU := Lib.hid hu
              have c0 := (HBl.out.cell (p := ⟨b, off + k, none⟩) hbl).trans hu
              have hbw : b < wr.heap.size := by omega
              have s1 : (0 : Int) ≤ row.length ∧ (row.length : Int) < 65536 := by omega
              clear hcell hu
              have hts := two_size
              have z1 : ¬ 9223372036854775807 < t.size + 2 := by omega
              have z2 : ¬ 9223372036854775807 < t.size + 2 + 2 := by omega
              have z3 : ¬ 9223372036854775807 < t.size + 2 + 2 + 2 := by omega
              have z4 : ¬ 9223372036854775807 < t.size + 2 + 2 + 2 + 2 := by omega
              have z5 : ¬ 9223372036854775807 < t.size + 2 + 2 + 2 + 2 + 2 := by omega
              repeat' (first | (go_at_call 23; refine (num _ _ (by omega) (by omega)).mono ?_; rintro e w3 ⟨rfl, hb3⟩; obtain ⟨hc3, hf3, hz3⟩ := bfacts hb3; dsimp only) | go_values | go_skip | go_guarded | (with_reducible (first | refine ex_then_ret ?_ | refine ex_then_exit ?_ | refine ex_then_normal ?_ | refine ex_block_ret ?_ | refine ex_block_normal ?_ | refine ex_block_same ?_ | refine ex_block_other (by decide) ?_)) | go_step | go_upon | go_quiet (fail))
              have HT3 := Lib.hid (cat1 HT.out HST.out)
              clear HST
              go_loopw [5, 9] (fun sv v wr => StrAt w P (.slice a1 P.ps.length c1) (.slice (some ⟨b, off, none⟩) P.ws.length c2) (.slice a3 P.cs.length c3) row.length (fun j => Pl.nums3' P k row j) sv v wr) (fun _ v _ => row.length - (intOf v).toNat)
              case atStart => exact ⟨0, _, Nat.zero_le _, rfl, rfl, HT3.out, HON.out.below (by repeat (with_reducible (first | exact Below.refl _ _ | assumption | refine Below.to ?_ (by assumption) | refine below_drewN ?_ _ | refine Below.alloc ?_ (by first | (simp; done) | omega | (simp; omega) | (simp at *; omega)) _ | refine Below.setCell ?_ (by first | (simp; done) | omega | (simp; omega) | (simp at *; omega)) _ | refine Below.drew ?_)))⟩
              case round =>
                clear HON HBl HT HT3 htz ha0 ha1 ha2 ha3 ha4 hbs c0 hbw hb3 hc3 hf3 hz3 s1
                have hko := hlt
                clear hlt
                obtain ⟨j, t, hj, rfl, rfl, ht, hon⟩ := hrel
                have HT := Lib.hid ht
                have HON := Lib.hid hon
                have HBl := Lib.hid hon.bel
                have htz := str_size ht (HLN.out j)
                obtain ⟨hbs, ⟨ha0, ha1, ha2, ha3, ha4⟩⟩ := hon
                have c0 := (HBl.out.cell (p := ⟨b, off + k, none⟩) hbl).trans HU.out
                have hbw : b < wr.heap.size := by omega
                clear ht
                by_cases hlt : j < row.length
                · obtain ⟨a', c', hav, _, hnil | ⟨b', off', rfl, hbl', hcell'⟩⟩ := HROW.out
                  · rw [hnil] at hlt; exact absurd hlt (Nat.not_lt_zero _)
                  cases hav
                  have at_ := fun i hi => (HBl.out.cell (p := ⟨b', off' + j * 3 + i, none⟩) hbl').trans (hcell' j i hlt hi)
                  have d0 := at_ 0 (by omega)
                  have d1 := at_ 1 (by omega)
                  have d2 := at_ 2 (by omega)
                  rw [Nat.add_zero] at d0
                  have hbw' : b' < wr.heap.size := by omega
                  have hsm := HSM.out j hlt
                  have HNY := Lib.hid (Pl.enc3'_next (P := P) (k := k) hlt)
                  obtain ⟨r, hr⟩ : ∃ r, row.getD j [] = r := ⟨_, rfl⟩
                  rw [hr] at d0 d1 d2 hsm HNY
                  have s0 := hsm (Pl.g r 0) (by simp [Pl.r3])
                  have s1 := hsm (Pl.g r 1) (by simp [Pl.r3])
                  have s2 := hsm (Pl.g r 2) (by simp [Pl.r3])
                  clear at_ hcell' hr hsm
                  have hts := two_size
                  have z1 : ¬ 9223372036854775807 < t.size + 2 := by omega
                  have z2 : ¬ 9223372036854775807 < t.size + 2 + 2 := by omega
                  have z3 : ¬ 9223372036854775807 < t.size + 2 + 2 + 2 := by omega
                  have z4 : ¬ 9223372036854775807 < t.size + 2 + 2 + 2 + 2 := by omega
                  have z5 : ¬ 9223372036854775807 < t.size + 2 + 2 + 2 + 2 + 2 := by omega
                  repeat' (first | go_values | go_skip | go_guarded | (with_reducible (first | refine ex_then_ret ?_ | refine ex_then_exit ?_ | refine ex_then_normal ?_ | refine ex_block_ret ?_ | refine ex_block_normal ?_ | refine ex_block_same ?_ | refine ex_block_other (by decide) ?_)) | go_step | go_upon)
                  go_region_held3 (fun W => Below wr.heap.size wr W ∧ wr.heap.size < W.heap.size ∧ W.cell? ⟨wr.heap.size, 0, none⟩ = some (.int .i64 (Pl.g r 0)) ∧ W.cell? ⟨wr.heap.size, 1, none⟩ = some (.int .i64 (Pl.g r 1)) ∧ W.cell? ⟨wr.heap.size, 2, none⟩ = some (.int .i64 (Pl.g r 2))) ((refine ⟨(by repeat (with_reducible (first | exact Below.refl _ _ | assumption | refine Below.to ?_ (by assumption) | refine below_drewN ?_ _ | refine Below.alloc ?_ (by first | (simp; done) | omega | (simp; omega) | (simp at *; omega)) _ | refine Below.setCell ?_ (by first | (simp; done) | omega | (simp; omega) | (simp at *; omega)) _ | refine Below.drew ?_))), (by first | (simp; done) | omega | (simp; omega) | (simp at *; omega)), ?_⟩; go_keep))
                    (first | (go_at_call 23; refine (num _ _ ?_ ?_).mono ?_; omega; omega; rintro e w3 ⟨rfl, hb3⟩; obtain ⟨hc3, hf3, hz3⟩ := bfacts hb3; (try rw [drew_size] at hz3)))
                  all_goals
                    repeat' (first | go_values | go_skip | go_guarded | (with_reducible (first | refine ex_then_ret ?_ | refine ex_then_exit ?_ | refine ex_then_normal ?_ | refine ex_block_ret ?_ | refine ex_block_normal ?_ | refine ex_block_same ?_ | refine ex_block_other (by decide) ?_)) | go_step | go_upon | go_quiet (fail))
                    exact ⟨⟨j + 1, _, by omega, by go_num, rfl, cat3 HT.out HNY.out, HON.out.below (by repeat (with_reducible (first | exact Below.refl _ _ | assumption | refine Below.to ?_ (by assumption) | refine below_drewN ?_ _ | refine Below.alloc ?_ (by first | (simp; done) | omega | (simp; omega) | (simp at *; omega)) _ | refine Below.setCell ?_ (by first | (simp; done) | omega | (simp; omega) | (simp at *; omega)) _ | refine Below.drew ?_)))⟩, by simp [intOf]; omega⟩
                · have ht := HT.out
                  obtain rfl : j = row.length := by omega
                  repeat' (first | go_values | go_skip | go_guarded | (with_reducible (first | refine ex_then_ret ?_ | refine ex_then_exit ?_ | refine ex_then_normal ?_ | refine ex_block_ret ?_ | refine ex_block_normal ?_ | refine ex_block_same ?_ | refine ex_block_other (by decide) ?_)) | go_step | go_upon | go_quiet (fail))
                  exact ⟨⟨k + 1, _, by omega, by go_num, rfl, ht.trans HNX.out, HON.out.below (by repeat (with_reducible (first | exact Below.refl _ _ | assumption | refine Below.to ?_ (by assumption) | refine below_drewN ?_ _ | refine Below.alloc ?_ (by first | (simp; done) | omega | (simp; omega) | (simp at *; omega)) _ | refine Below.setCell ?_ (by first | (simp; done) | omega | (simp; omega) | (simp at *; omega)) _ | refine Below.drew ?_)))⟩, by simp [intOf]; omega⟩
            · have ht := HT.out
              obtain rfl : k = P.ws.length := by omega
              have HT2 := Lib.hid (cat1 ht (Pl.enc4_of P))
              have s1 : (0 : Int) ≤ P.cs.length ∧ (P.cs.length : Int) < 65536 := by omega
              have hts := two_size
              have z1 : ¬ 9223372036854775807 < t.size + 2 := by omega
              have z2 : ¬ 9223372036854775807 < t.size + 2 + 2 := by omega
              have z3 : ¬ 9223372036854775807 < t.size + 2 + 2 + 2 := by omega
              have z4 : ¬ 9223372036854775807 < t.size + 2 + 2 + 2 + 2 := by omega
              have z5 : ¬ 9223372036854775807 < t.size + 2 + 2 + 2 + 2 + 2 := by omega
              clear ht
              repeat' (first | (go_at_call 23; refine (num _ _ (by omega) (by omega)).mono ?_; rintro e w3 ⟨rfl, hb3⟩; obtain ⟨hc3, hf3, hz3⟩ := bfacts hb3; dsimp only) | go_values | go_skip | go_guarded | (with_reducible (first | refine ex_then_ret ?_ | refine ex_then_exit ?_ | refine ex_then_normal ?_ | refine ex_block_ret ?_ | refine ex_block_normal ?_ | refine ex_block_same ?_ | refine ex_block_other (by decide) ?_)) | go_step | go_upon | go_quiet (fail))
              clear ha0 ha1 ha2 ha3 ha4 hbs
              go_loopw [5, 11] (fun sv v wr => StrAt w P (.slice a1 P.ps.length c1) (.slice a2 P.ws.length c2) (.slice a3 P.cs.length c3) P.cs.length (fun k => Pl.nums5 P k) sv v wr) (fun _ v _ => P.cs.length - (intOf v).toNat)
              case atStart => exact ⟨0, _, Nat.zero_le _, rfl, rfl, HT2.out.trans (Pl.enc5_zero P), HON.out.below (by repeat (with_reducible (first | exact Below.refl _ _ | assumption | refine Below.to ?_ (by assumption) | refine below_drewN ?_ _ | refine Below.alloc ?_ (by first | (simp; done) | omega | (simp; omega) | (simp at *; omega)) _ | refine Below.setCell ?_ (by first | (simp; done) | omega | (simp; omega) | (simp at *; omega)) _ | refine Below.drew ?_)))⟩
              case round =>
                clear HON HBl HT HT2 s1 htz hlt hk
                obtain ⟨k, t, hk, rfl, rfl, ht, hon⟩ := hrel
                have HT := Lib.hid ht
                have HON := Lib.hid hon
                have HBl := Lib.hid hon.bel
                have htz := str_size ht (Pl.nums5_length H0.out k)
                obtain ⟨hbs, ⟨ha0, ha1, ha2, ha3, ha4⟩⟩ := hon
                clear ht
                by_cases hlt : k < P.cs.length
                · obtain ⟨a', c', hav, _, hnil | ⟨b', off', rfl, hbl', hcell'⟩⟩ := HCH.out
                  · rw [hnil] at hlt; exact absurd hlt (Nat.not_lt_zero _)
                  cases hav
                  have at_ := fun i hi => (HBl.out.cell (p := ⟨b', off' + k * 5 + i, none⟩) hbl').trans (hcell' k i hlt hi)
                  have d0 := at_ 0 (by omega)
                  have d1 := at_ 1 (by omega)
                  have d2 := at_ 2 (by omega)
                  have d3 := at_ 3 (by omega)
                  have d4 := at_ 4 (by omega)
                  rw [Nat.add_zero] at d0
                  have hbw' : b' < wr.heap.size := by omega
                  have hsm := Pl.small5 H0.out hlt
                  have HNY := Lib.hid (Pl.enc5_next hlt)
                  obtain ⟨r, hr⟩ : ∃ r, P.cs.getD k [] = r := ⟨_, rfl⟩
                  rw [hr] at d0 d1 d2 d3 d4 hsm HNY
                  have s0 := hsm (Pl.g r 0) (by simp [Pl.r5])
                  have s1 := hsm (Pl.g r 1) (by simp [Pl.r5])
                  have s2 := hsm (Pl.g r 2) (by simp [Pl.r5])
                  have s3 := hsm (Pl.g r 3) (by simp [Pl.r5])
                  have s4 := hsm (Pl.g r 4) (by simp [Pl.r5])
                  clear at_ hcell' hr hsm
                  have hts := two_size
                  have z1 : ¬ 9223372036854775807 < t.size + 2 := by omega
                  have z2 : ¬ 9223372036854775807 < t.size + 2 + 2 := by omega
                  have z3 : ¬ 9223372036854775807 < t.size + 2 + 2 + 2 := by omega
                  have z4 : ¬ 9223372036854775807 < t.size + 2 + 2 + 2 + 2 := by omega
                  have z5 : ¬ 9223372036854775807 < t.size + 2 + 2 + 2 + 2 + 2 := by omega
                  repeat' (first | go_values | go_skip | go_guarded | (with_reducible (first | refine ex_then_ret ?_ | refine ex_then_exit ?_ | refine ex_then_normal ?_ | refine ex_block_ret ?_ | refine ex_block_normal ?_ | refine ex_block_same ?_ | refine ex_block_other (by decide) ?_)) | go_step | go_upon)
                  go_region_held3 (fun W => Below wr.heap.size wr W ∧ wr.heap.size < W.heap.size ∧ W.cell? ⟨wr.heap.size, 0, none⟩ = some (.int .i64 (Pl.g r 0)) ∧ W.cell? ⟨wr.heap.size, 1, none⟩ = some (.int .i64 (Pl.g r 1)) ∧ W.cell? ⟨wr.heap.size, 2, none⟩ = some (.int .i64 (Pl.g r 2)) ∧ W.cell? ⟨wr.heap.size, 3, none⟩ = some (.int .i64 (Pl.g r 3)) ∧ W.cell? ⟨wr.heap.size, 4, none⟩ = some (.int .i64 (Pl.g r 4))) ((refine ⟨(by repeat (with_reducible (first | exact Below.refl _ _ | assumption | refine Below.to ?_ (by assumption) | refine below_drewN ?_ _ | refine Below.alloc ?_ (by first | (simp; done) | omega | (simp; omega) | (simp at *; omega)) _ | refine Below.setCell ?_ (by first | (simp; done) | omega | (simp; omega) | (simp at *; omega)) _ | refine Below.drew ?_))), (by first | (simp; done) | omega | (simp; omega) | (simp at *; omega)), ?_⟩; go_keep))
                    (first | (go_at_call 23; refine (num _ _ ?_ ?_).mono ?_; omega; omega; rintro e w3 ⟨rfl, hb3⟩; obtain ⟨hc3, hf3, hz3⟩ := bfacts hb3; (try rw [drew_size] at hz3)))
                  all_goals
                    repeat' (first | go_values | go_skip | go_guarded | (with_reducible (first | refine ex_then_ret ?_ | refine ex_then_exit ?_ | refine ex_then_normal ?_ | refine ex_block_ret ?_ | refine ex_block_normal ?_ | refine ex_block_same ?_ | refine ex_block_other (by decide) ?_)) | go_step | go_upon | go_quiet (fail))
                    exact ⟨⟨k + 1, _, by omega, by go_num, rfl, cat5 HT.out HNY.out, HON.out.below (by repeat (with_reducible (first | exact Below.refl _ _ | assumption | refine Below.to ?_ (by assumption) | refine below_drewN ?_ _ | refine Below.alloc ?_ (by first | (simp; done) | omega | (simp; omega) | (simp at *; omega)) _ | refine Below.setCell ?_ (by first | (simp; done) | omega | (simp; omega) | (simp at *; omega)) _ | refine Below.drew ?_)))⟩, by simp [intOf]; omega⟩
                · have ht := HT.out
                  obtain rfl : k = P.cs.length := by omega
                  have hE : t = Pl.bytesS P := by
                    rw [← Pl.bytesS_yes H0.out]
                    exact ByteArray.ext (Array.ext' (by rw [ht]))
                  subst hE
                  repeat' (first | go_values | go_skip | go_guarded | (with_reducible (first | refine ex_then_ret ?_ | refine ex_then_exit ?_ | refine ex_then_normal ?_ | refine ex_block_ret ?_ | refine ex_block_normal ?_ | refine ex_block_same ?_ | refine ex_block_other (by decide) ?_)) | go_step | go_upon | go_quiet (fail))
                  go_ret2
                  exact gives_of (two_str rfl H0.out.symm) (by repeat (with_reducible (first | exact Below.refl _ _ | assumption | refine Below.to ?_ (by assumption) | refine below_drewN ?_ _ | refine Below.alloc ?_ (by first | (simp; done) | omega | (simp; omega) | (simp at *; omega)) _ | refine Below.setCell ?_ (by first | (simp; done) | omega | (simp; omega) | (simp at *; omega)) _ | refine Below.drew ?_)))
  · have HN := Lib.hid (Pl.bytesS_no h0)
    have hne : ¬ Pl.check P = 0 := h0
    go_enter Tryd.func9, Tryd.ntmps9
    repeat' (first
      | (go_at_call 13; refine (HC.out _ (by repeat (with_reducible (first | exact Below.refl _ _ | assumption | refine Below.to ?_ (by assumption) | refine below_drewN ?_ _ | refine Below.alloc ?_ (by first | (simp; done) | omega | (simp; omega) | (simp at *; omega)) _ | refine Below.setCell ?_ (by first | (simp; done) | omega | (simp; omega) | (simp at *; omega)) _ | refine Below.drew ?_)))).mono ?_; rintro e w1 ⟨rfl, hb1⟩; clear HC; dsimp only)
      | go_values | go_skip | go_guarded | (with_reducible (first | refine ex_then_ret ?_ | refine ex_then_exit ?_ | refine ex_then_normal ?_ | refine ex_block_ret ?_ | refine ex_block_normal ?_ | refine ex_block_same ?_ | refine ex_block_other (by decide) ?_)) | go_step | go_upon | go_quiet (fail))
    go_ret2
    exact gives_of (two_str HN.out rfl) (by repeat (with_reducible (first | exact Below.refl _ _ | assumption | refine Below.to ?_ (by assumption) | refine below_drewN ?_ _ | refine Below.alloc ?_ (by first | (simp; done) | omega | (simp; omega) | (simp at *; omega)) _ | refine Below.setCell ?_ (by first | (simp; done) | omega | (simp; omega) | (simp at *; omega)) _ | refine Below.drew ?_)))
end RfB
end Go.Proofs.YtiggoojjefmcoaaDoor
