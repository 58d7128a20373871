/- load.unpack's loops: what stands where, and how it stays. No condition. -/
import Derived.Test.YtonhphdoieojfaaDoorLoadNum
import Derived.Test.YtonhphdoieojfaaDoorLoadUnpPlain
import Derived.Test.YtonhphdoieojfaaDoorLoadAt
import Derived.Test.YtonhphdoieojfaaDoorOwn
set_option linter.unusedVariables false
set_option linter.unusedSimpArgs false
namespace Go.Proofs.YtonhphdoieojfaaDoor
open Go.RowKit
namespace Unp
theorem cl_same {b : Nat} {s : ByteArray} {p : Nat} {e : Option Nat} {W W' : World} (h : Cl b s p e W)
    (hs : ∀ k : Nat, (k = b ∨ k = b + 1 ∨ k = b + 2 ∨ ∃ c, W.heap[k]? = some (.cells c 56 (0, 0))) → W'.heap[k]? = W.heap[k]?) : Cl b s p e W' := by
  obtain ⟨h0, ⟨v, h1, hv⟩, h2⟩ := h
  refine ⟨by rw [hs b (by simp)]; exact h0, ⟨v, by rw [hs (b + 1) (by simp)]; exact h1, ?_⟩, by rw [hs (b + 2) (by simp)]; exact h2⟩
  match e, hv with
  | none, hv => exact hv
  | some c, ⟨q, x, hv, hx⟩ => exact ⟨q, x, hv, by rw [hs x (.inr (.inr (.inr ⟨_, hx⟩)))]; exact hx⟩
/-- a row of strings that the call made -/
def RowAt (W : World) (v : Value) (r : List ByteArray) : Prop := (∃ B, W.ownsRow B 9 1 v r.length (r.map Value.string)) ∧ ∀ x ∈ r, x.size ≤ 64
theorem rowAt_same {W W' : World} {v : Value} {r : List ByteArray} (h : RowAt W v r) (hs : ∀ (g : Nat) (cur : Array Value), W.heap[g]? = some (.cells cur 9 (0, 0)) → W'.heap[g]? = W.heap[g]?) : RowAt W' v r := by
  obtain ⟨⟨B, h⟩, h64⟩ := h
  exact ⟨⟨B, ownsRow_same h (fun g hg => by obtain ⟨_, _, cur, hc⟩ := ownBlock_lt h hg; exact hs g cur hc)⟩, h64⟩
theorem ne_of_types {W : World} {g k : Nat} {c c' : Array Value} {T T' : TypeId} (h : W.heap[g]? = some (.cells c T (0, 0))) (h' : W.heap[k]? = some (.cells c' T' (0, 0))) (hT : T ≠ T') : g ≠ k := by
  rintro rfl
  rw [h] at h'
  simp only [Option.some.injEq, Obj.cells.injEq] at h'
  exact hT h'.2.1
theorem rowAt_kept {b : Nat} {s : ByteArray} {p : Nat} {e : Option Nat} {W W' : World} {v : Value} {r : List ByteArray} {B : Nat} (hc : Cl b s p e W) (hk : Kept b B W W') (hB : W.heap.size ≤ B) (h : RowAt W v r) : RowAt W' v r := by
  obtain ⟨h0, ⟨u, h1, _⟩, h2⟩ := hc
  exact rowAt_same h (fun g cur hg => hk.block g (Nat.lt_of_lt_of_le (heap_lt hg) hB) (ne_of_types hg h1 (by decide)) (ne_of_types hg h2 (by decide)))
theorem list_kept {b : Nat} {s : ByteArray} {p : Nat} {e : Option Nat} {W W' : World} {v : Value} {n : Nat} {xs : List Value} {B base : Nat} (hc : Cl b s p e W) (hk : Kept b B W W') (hB : W.heap.size ≤ B) (h : W.ownsRow base 32 1 v n xs) : W'.ownsRow base 32 1 v n xs := by
  obtain ⟨h0, ⟨u, h1, _⟩, h2⟩ := hc
  exact ownsRow_same h (fun g hg => by
    obtain ⟨_, hl, cur, hcur⟩ := ownBlock_lt h hg
    exact hk.block g (Nat.lt_of_lt_of_le hl hB) (ne_of_types hcur h1 (by decide)) (ne_of_types hcur h2 (by decide)))
/-- what the program has told so far -/
def Told (s : ByteArray) (k : Nat) (acc : List (List ByteArray)) (p : Nat) : Option Nat → Prop
  | none => Ld.unpack s.data.toList = Ld.finish (Ld.preR acc (Ld.rows k (s.data.toList.drop p)))
  | some c => Ld.unpack s.data.toList = .error c
/-- the head of the loop over the rows -/
def OuterAt (w : World) (s : ByteArray) (N : Nat) (lv iv : Value) (W : World) (i p : Nat) (e : Option Nat) (rs : List (Value × List ByteArray)) : Prop :=
  i ≤ N ∧ iv = .int .i64 (i : Int) ∧ rs.length = i ∧ p ≤ s.size ∧ Cl w.heap.size s p e W ∧ Below w.heap.size w W ∧ w.heap.size + 2 < W.heap.size ∧ W.ownsRow w.heap.size 32 1 lv i (rs.map (·.1)) ∧ (e = none → ∀ x ∈ rs, RowAt W x.1 x.2) ∧ Told s (N - i) (rs.map (·.2)) p e
def Outer (w : World) (s : ByteArray) (N : Nat) (lv iv : Value) (W : World) : Prop := ∃ i p e rs, OuterAt w s N lv iv W i p e rs
/-- what num answers at the start -/
def Begun (b : Nat) (s : ByteArray) (W : World) (ev : Ending) (W' : World) : Prop := ∃ (N p : Nat) (e : Option Nat), ev = .returned (.int .i64 (N : Int)) ∧ N ≤ 4 ∧ p ≤ s.size ∧ Cl b s p e W' ∧ Kept b W.heap.size W W' ∧ Told s N [] p e
theorem num_first (b : Nat) (s : ByteArray) (W : World) (h : Cl b s 0 none W) (hs : s.size ≤ 140737488355328) : Calls Tryd.prog 26 (cap b 4) W (Begun b s W) := by
  by_cases hp : 0 < s.size
  · by_cases hm : 4 < s[0].toNat
    · refine (num_big b s 0 4 W h hs hp (by omega)).mono ?_
      rintro ev W' ⟨rfl, hc, hk⟩
      exact ⟨0, 0, some 4, rfl, by omega, by omega, hc, hk, Ld.unp_big hp hm⟩
    · refine (num_ok b s 0 4 W h hs hp (by omega)).mono ?_
      rintro ev W' ⟨rfl, hc, hk⟩
      exact ⟨s[0].toNat, 1, none, rfl, by omega, by omega, hc, hk, Ld.unp_go hp hm⟩
  · refine (num_more b s 0 4 W h hs (by omega) (by omega)).mono ?_
    rintro ev W' ⟨rfl, hc, hk⟩
    exact ⟨0, 0, some 2, rfl, by omega, by omega, hc, hk, Ld.unp_more (by omega)⟩
/-- what num answers ahead of a row -/
def RowGo (s : ByteArray) (k : Nat) (acc : List (List ByteArray)) (p n p' : Nat) : Option Nat → Prop
  | none => ∃ hp : p < s.size, p' = p + 1 ∧ n = s[p].toNat ∧ n ≤ 8 ∧ Told s (k + 1) acc p none
  | some c => n = 0 ∧ Ld.unpack s.data.toList = .error c
def RowBegun (b : Nat) (s : ByteArray) (k : Nat) (acc : List (List ByteArray)) (p : Nat) (e : Option Nat) (W : World) (ev : Ending) (W' : World) : Prop :=
  ∃ (n p' : Nat) (e' : Option Nat), ev = .returned (.int .i64 (n : Int)) ∧ n ≤ 8 ∧ p' ≤ s.size ∧ (e' = none → e = none) ∧ Cl b s p' e' W' ∧ Kept b W.heap.size W W' ∧ RowGo s k acc p n p' e'
theorem num_row (b : Nat) (s : ByteArray) (k : Nat) (acc : List (List ByteArray)) (p : Nat) (e : Option Nat) (W : World) (h : Cl b s p e W) (hs : s.size ≤ 140737488355328) (hps : p ≤ s.size) (ht : Told s (k + 1) acc p e) : Calls Tryd.prog 26 (cap b 8) W (RowBegun b s k acc p e W) := by
  match e, h, ht with
  | some c, h, ht =>
    refine (num_err b s p c 8 W h).mono ?_
    rintro ev W' ⟨rfl, rfl⟩
    exact ⟨0, p, some c, rfl, by omega, hps, (fun hh => by cases hh), h, Kept.refl _ _ _, rfl, ht⟩
  | none, h, ht =>
    by_cases hp : p < s.size
    · by_cases hm : 8 < s[p].toNat
      · refine (num_big b s p 8 W h hs hp (by omega)).mono ?_
        rintro ev W' ⟨rfl, hc, hk⟩
        exact ⟨0, p, some 4, rfl, by omega, hps, fun _ => rfl, hc, hk, rfl, Ld.rows_big ht hp hm⟩
      · refine (num_ok b s p 8 W h hs hp (by omega)).mono ?_
        rintro ev W' ⟨rfl, hc, hk⟩
        exact ⟨s[p].toNat, p + 1, none, rfl, by omega, by omega, fun _ => rfl, hc, hk, hp, rfl, rfl, by omega, ht⟩
    · refine (num_more b s p 8 W h hs (by omega) (by omega)).mono ?_
      rintro ev W' ⟨rfl, hc, hk⟩
      exact ⟨0, p, some 2, rfl, by omega, hps, fun _ => rfl, hc, hk, rfl, Ld.rows_more ht (by omega)⟩
/-- what num answers ahead of a string: why there is none, or its length -/
theorem num_str (b : Nat) (s : ByteArray) (k : Nat) (acc : List ByteArray) (p : Nat) (W : World) (X : Except Nat (List (List UInt8) × List UInt8)) (h : Cl b s p none W) (hs : s.size ≤ 140737488355328) (hps : p ≤ s.size) (hx : X = Ld.pre acc (Ld.strs (k + 1) (s.data.toList.drop p))) :
    (∃ c, X = .error c ∧ Calls Tryd.prog 26 (cap b 64) W (Fails b s p c W)) ∨
    (∃ hp : p < s.size, s[p].toNat ≤ 64 ∧ Calls Tryd.prog 26 (cap b 64) W (Takes b s p s[p].toNat W)) := by
  by_cases hp : p < s.size
  · by_cases hm : 64 < s[p].toNat
    · exact .inl ⟨4, Ld.strs_big hx hp hm, num_big b s p 64 W h hs hp (by omega)⟩
    · exact .inr ⟨hp, by omega, num_ok b s p 64 W h hs hp (by omega)⟩
  · exact .inl ⟨2, Ld.strs_more hx (by omega), num_more b s p 64 W h hs (by omega) (by omega)⟩
/-- what the loop over a row's strings has told -/
def RowTold (s : ByteArray) (n j : Nat) (acc : List ByteArray) (p0 p : Nat) : Option Nat → Prop
  | none => Ld.strs n (s.data.toList.drop p0) = Ld.pre acc (Ld.strs (n - j) (s.data.toList.drop p))
  | some c => n = 0
def InnerAt (b B : Nat) (s : ByteArray) (n p0 : Nat) (W0 : World) (rv jv : Value) (W : World) (j p : Nat) (e : Option Nat) (acc : List ByteArray) : Prop :=
  j ≤ n ∧ jv = .int .i64 (j : Int) ∧ acc.length = j ∧ p ≤ s.size ∧ Cl b s p e W ∧ Kept b B W0 W ∧ W.ownsRow B 9 1 rv j (acc.map Value.string) ∧ (∀ x ∈ acc, x.size ≤ 64) ∧ RowTold s n j acc p0 p e
def Inner (b B : Nat) (s : ByteArray) (n p0 : Nat) (e : Option Nat) (W0 : World) (rv jv : Value) (W : World) : Prop := ∃ j p acc, InnerAt b B s n p0 W0 rv jv W j p e acc
/-- the end of a round over the rows -/
theorem outer_next {w W W1 Wr W' : World} {s : ByteArray} {N i p pr : Nat} {e er : Option Nat} {rs : List (Value × List ByteArray)} {lv iv rv lv' : Value} {r : List ByteArray}
    (h : OuterAt w s N lv iv W i p e rs) (hi : i < N) (hk1 : Kept w.heap.size W.heap.size W W1) (hc1 : ∃ p1 e1, Cl w.heap.size s p1 e1 W1) (hkr : Kept w.heap.size W1.heap.size W1 Wr) (hcr : Cl w.heap.size s pr er Wr) (hpr : pr ≤ s.size)
    (hrow : er = none → e = none ∧ Wr.ownsRow W1.heap.size 9 1 rv r.length (r.map Value.string) ∧ ∀ x ∈ r, x.size ≤ 64)
    (ht : Told s (N - i - 1) (rs.map (·.2) ++ [r]) pr er)
    (ho : W'.ownsRow w.heap.size 32 1 lv' (i + 1) (rs.map (·.1) ++ [rv])) (hg : (Wr.alloc (.cells #[rv] 32)).grownBy W' lv.ownBlock) :
    Outer w s N lv' (.int .i64 ((i : Int) + 1)) W' := by
  obtain ⟨h1, h2, h3, h4, h5, h6, h7, h8, h9, h10⟩ := h
  obtain ⟨p1', e1, hc1⟩ := hc1
  have hl1 : W1.ownsRow w.heap.size 32 1 lv i (rs.map (·.1)) := list_kept h5 hk1 (Nat.le_refl _) h8
  have hlr : Wr.ownsRow w.heap.size 32 1 lv i (rs.map (·.1)) := list_kept hc1 hkr (Nat.le_refl _) hl1
  have hst : ∀ (k : Nat) (c : Array Value) (T : TypeId), Wr.heap[k]? = some (.cells c T (0, 0)) → T ≠ 32 → W'.heap[k]? = Wr.heap[k]? := by
    intro k c T hk hT
    have hlt := heap_lt hk
    rw [hg.block k (by simp; omega) (by
      intro hh
      obtain ⟨_, _, cur, hcur⟩ := ownBlock_lt hlr hh.symm
      exact ne_of_types hk hcur hT rfl), Lib.alloc_old Wr _ k hlt]
  have hbel : Below w.heap.size W Wr := (hk1.below (by omega)).trans ((hkr.mono hk1.size).below (by omega))
  have hsz : Wr.heap.size + 1 ≤ W'.heap.size := by have := hg.size; simp at this; exact this
  have hWr := hbel.size
  refine ⟨i + 1, pr, er, rs ++ [(rv, r)], by omega, by go_num, by simp [h3], hpr, ?_, ?_, by omega, by simpa using ho, ?_, ?_⟩
  · have hcr' := hcr
    obtain ⟨c0, ⟨v, c1, _⟩, c2⟩ := hcr'
    refine cl_same hcr ?_
    rintro k (rfl | rfl | rfl | ⟨c, hk⟩)
    · exact hst _ _ _ c0 (by decide)
    · exact hst _ _ _ c1 (by decide)
    · exact hst _ _ _ c2 (by decide)
    · exact hst _ _ _ hk (by decide)
  · refine (h6.trans hbel).trans ⟨hg.os, hg.tape, hg.output, by omega, fun k hk => ?_⟩
    rw [hg.block k (by simp; omega) (by
      intro hh
      obtain ⟨hge, _⟩ := ownBlock_lt hlr hh.symm
      omega), Lib.alloc_old Wr _ k (by omega)]
  · intro hn x hx
    obtain ⟨he, hro, h64⟩ := hrow hn
    rcases List.mem_append.mp hx with hx | hx
    · have a1 := rowAt_kept h5 hk1 (Nat.le_refl _) (h9 he x hx)
      have a2 := rowAt_kept hc1 hkr (Nat.le_refl _) a1
      exact rowAt_same a2 (fun g cur hgc => hst g cur _ hgc (by decide))
    · obtain rfl : x = (rv, r) := by simpa using hx
      exact rowAt_same ⟨⟨_, hro⟩, h64⟩ (fun g cur hgc => hst g cur _ hgc (by decide))
  · rw [List.map_append, show N - (i + 1) = N - i - 1 by omega]
    exact ht
theorem cells_of {W : World} {B : Nat} {T : TypeId} {v : Value} {n : Nat} {xs : List Value} (h : W.ownsRow B T 1 v n xs) (d : Value) : ∃ a c, v = .slice a n c ∧ xs.length = n ∧ (n = 0 ∨ ∃ b, a = some ⟨b, 0, none⟩ ∧ b < W.heap.size ∧ ∀ i, i < n → W.cell? ⟨b, i, none⟩ = some (xs.getD i d)) := by
  obtain ⟨hl, hn | ⟨g, cap, cur, rfl, hb, hg, hn, hm, hc, ht⟩⟩ := h
  · obtain ⟨rfl, rfl⟩ := hn
    exact ⟨none, 0, rfl, by simpa using hl, .inl rfl⟩
  · refine ⟨_, _, rfl, by simpa using hl, .inr ⟨g, rfl, heap_lt hg, fun i hi => ?_⟩⟩
    rw [heap_cell hg i, ← ht]
    have hi' : i < cur.size := by omega
    rw [Array.getElem?_eq_getElem hi', List.getD_eq_getElem?_getD, List.getElem?_take_of_lt (by omega), Array.getElem?_toList, Array.getElem?_eq_getElem hi']
    rfl
theorem strs_of {W : World} {v : Value} {r : List ByteArray} (h : RowAt W v r) (hr : r.length ≤ 9223372036854775807) : StrsAt W v r := by
  obtain ⟨⟨B, h⟩, h64⟩ := h
  obtain ⟨a, c, rfl, hl, h0⟩ := cells_of h (.string ByteArray.empty)
  refine ⟨a, c, rfl, hr, fun x hx => by have := h64 x hx; omega, ?_⟩
  rcases h0 with h0 | ⟨b, rfl, hb, hc⟩
  · exact .inl (List.length_eq_zero_iff.mp h0)
  · refine .inr ⟨b, 0, rfl, hb, fun i hi => ?_⟩
    rw [Nat.zero_add, hc i hi]
    simp [List.getD_eq_getElem?_getD, List.getElem?_map, List.getElem?_eq_getElem hi]
theorem imgs_of {W : World} {B : Nat} {lv : Value} {rs : List (Value × List ByteArray)} {n : Nat} (hn : rs.length = n) (hn4 : n ≤ 1000) (h : W.ownsRow B 32 1 lv n (rs.map (·.1))) (hr : ∀ x ∈ rs, RowAt W x.1 x.2) (h8 : ∀ x ∈ rs, x.2.length ≤ 9223372036854775807) : ImgsAt W lv (rs.map (·.2)) := by
  subst hn
  obtain ⟨a, c, rfl, hl, h0⟩ := cells_of h .nilIface
  refine ⟨a, c, by rw [List.length_map], by rw [List.length_map]; omega, ?_⟩
  rcases h0 with h0 | ⟨b, rfl, hb, hc⟩
  · exact .inl (by rw [List.length_eq_zero_iff.mp h0]; rfl)
  · refine .inr ⟨b, 0, rfl, hb, fun i hi => ?_⟩
    rw [List.length_map] at hi
    refine ⟨_, by rw [Nat.zero_add]; exact hc i hi, ?_⟩
    have hm := List.getElem_mem hi
    have e1 : (rs.map (·.1)).getD i .nilIface = rs[i].1 := by simp [List.getD_eq_getElem?_getD, List.getElem?_map, List.getElem?_eq_getElem hi]
    have e2 : (rs.map (·.2)).getD i [] = rs[i].2 := by simp [List.getD_eq_getElem?_getD, List.getElem?_map, List.getElem?_eq_getElem hi]
    rw [e1, e2]
    exact strs_of (hr _ hm) (h8 _ hm)
theorem round_told {s : ByteArray} {k p n p2 pr : Nat} {e2 : Option Nat} {accR : List (List ByteArray)} {acc : List ByteArray} (hgo : RowGo s k accR p n p2 e2) (htr : RowTold s n n acc p2 pr e2) : Told s k (accR ++ [acc]) pr e2 := by
  match e2, hgo, htr with
  | some c, hgo, _ => exact hgo.2
  | none, ⟨hp, h2, hn, h8, ht⟩, htr =>
    subst h2 hn
    have h0 : Ld.strs s[p].toNat (s.data.toList.drop (p + 1)) = Ld.pre acc (Ld.strs 0 (s.data.toList.drop pr)) := by
      have : Ld.strs s[p].toNat (s.data.toList.drop (p + 1)) = Ld.pre acc (Ld.strs (s[p].toNat - s[p].toNat) (s.data.toList.drop pr)) := htr
      rw [Nat.sub_self] at this
      exact this
    exact Ld.rows_next ht hp (by omega) (Ld.strs_end h0)
theorem round_bad {s : ByteArray} {k p n p2 pr c : Nat} {accR : List (List ByteArray)} {acc : List ByteArray} (hgo : RowGo s k accR p n p2 none) (hx : Ld.strs n (s.data.toList.drop p2) = .error c) : Told s k (accR ++ [acc]) pr (some c) := by
  obtain ⟨hp, h2, hn, h8, ht⟩ := hgo
  subst h2 hn
  exact Ld.rows_bad ht hp (by omega) hx
/-- a string is put behind a row -/
theorem cl_append {b B : Nat} {s : ByteArray} {p : Nat} {W W' : World} {rv x : Value} {n : Nat} {xs : List Value} (h : Cl b s p none W) (hB : b + 2 < B) (hBW : B ≤ W.heap.size) (hown : W.ownsRow B 9 1 rv n xs) (hg : (W.alloc (.cells #[x] 9)).grownBy W' rv.ownBlock) : Cl b s p none W' ∧ Below B W W' := by
  have hst : ∀ k : Nat, k < B → W'.heap[k]? = W.heap[k]? := by
    intro k hk
    rw [hg.block k (by simp; omega) (by
      intro hh
      obtain ⟨hge, _⟩ := ownBlock_lt hown hh.symm
      omega), Lib.alloc_old W _ k (by omega)]
  obtain ⟨h0, ⟨v, h1, hv⟩, h2⟩ := h
  refine ⟨⟨?_, ⟨v, ?_, hv⟩, ?_⟩, hg.os, hg.tape, hg.output, ?_, hst⟩
  · rw [hst b (by omega)]; exact h0
  · rw [hst (b + 1) (by omega)]; exact h1
  · rw [hst (b + 2) (by omega)]; exact h2
  · have := hg.size
    simp at this
    omega
/-- a row's row stands while 'place' moves on -/
theorem own_kept {b B : Nat} {W W' : World} {v : Value} {n : Nat} {xs : List Value} {T : TypeId} (hB : b + 2 < B) (hk : Kept b W.heap.size W W') (h : W.ownsRow B T 1 v n xs) : W'.ownsRow B T 1 v n xs :=
  ownsRow_same h (fun g hg => by
    obtain ⟨hge, hl, _⟩ := ownBlock_lt h hg
    exact hk.block g hl (by omega) (by omega))
theorem inner_next {b B : Nat} {s : ByteArray} {n p2 j pr : Nat} {W0 Wr W3 W' : World} {rv jv rv' : Value} {acc : List ByteArray} {q : Int} (h : InnerAt b B s n p2 W0 rv jv Wr j pr none acc) (hB : b + 2 < B) (hBW : B ≤ Wr.heap.size) (hjt : j < n) (hp : pr < s.size) (h64 : s[pr].toNat ≤ 64) (hshort : ¬ s.size - (pr + 1) < s[pr].toNat)
    (hk3 : Kept b Wr.heap.size Wr W3) (hc' : Cl b s (pr + 1) none W') (hb' : Below B W3 W') (ho : W'.ownsRow B 9 1 rv' (j + 1) (acc.map Value.string ++ [.string (s.extract (pr + 1) (pr + 1 + s[pr].toNat))])) (hq : q = ((pr + 1 + s[pr].toNat : Nat) : Int)) :
    Inner b B s n p2 none W0 rv' (.int .i64 ((j : Int) + 1)) (W'.setCell ⟨b + 2, 0, none⟩ (.int .i64 q)) := by
  subst hq
  obtain ⟨h1, h2, h3, h4, h5, h6, h7, h8, h9⟩ := h
  obtain ⟨hcl, hkk⟩ := cl_next (e := none) hc' (pr + 1 + s[pr].toNat)
  have hsz := hb'.size
  have hsz3 := hk3.size
  refine ⟨j + 1, pr + 1 + s[pr].toNat, acc ++ [s.extract (pr + 1) (pr + 1 + s[pr].toNat)], by omega, by go_num, by simp [h3], by omega, hcl, ?_, ?_, ?_, ?_⟩
  · exact ((h6.trans (hk3.mono (by omega))).trans (Kept.of hb')).trans (hkk.mono (by omega))
  · rw [List.map_append]
    exact own_kept hB hkk ho
  · intro x hx
    rcases List.mem_append.mp hx with hx | hx
    · exact h8 x hx
    · obtain rfl : x = s.extract (pr + 1) (pr + 1 + s[pr].toNat) := by simpa using hx
      rw [ByteArray.size_extract]
      omega
  · have h9' : Ld.strs n (s.data.toList.drop p2) = Ld.pre acc (Ld.strs (n - (j + 1) + 1) (s.data.toList.drop pr)) := by rw [show n - (j + 1) + 1 = n - j by omega]; exact h9
    exact Ld.strs_next h9' hp (by omega) hshort
end Unp
end Go.Proofs.YtonhphdoieojfaaDoor
