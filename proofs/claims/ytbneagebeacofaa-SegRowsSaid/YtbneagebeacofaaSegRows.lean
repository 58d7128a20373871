/- transomref02.Out, In, Make answer what the plain functions Sg say; the walk of the law SegRows. Conditions: a place is a word, a memory is no longer than a string can be. -/
import Derived.Test.YtbneagebeacofaaSegLawA
import Derived.WalkKit
import Derived.WalkSpells
import Derived.WalkLawsBesides
import Derived.Lib.Hide
import Derived.BigQuiet
import Derived.Deep.QuietTactic

set_option linter.unusedVariables false
set_option linter.unusedSimpArgs false
namespace Go.Proofs.Ytbneagebeacofaa
open Go.RowKit
namespace RSeg
set_option maxHeartbeats 1000000 in
theorem Out (m : ByteArray) (a n : Int) (w : World) (hm : m.size ≤ 140737488355328) (h0 : 0 ≤ a) (h1 : a < 4294967296) (n0 : 0 ≤ n) (n1 : n < 4294967296) :
    Calls Try.prog 15 #[.string m, .int .u32 a, .int .u32 n] w (Gives (.tuple #[.string (Sg.outS m a n), .int .i64 (Sg.outE m a n)]) w) := by
  unfold Sg.outS Sg.outE
  by_cases hw : Sg.has m a n = true
  · rw [if_pos hw, if_pos hw]
    have hf : a + n ≤ m.size := by simpa [Sg.has] using hw
    have q1 : IntKind.i64.wrap (a + n) = a + n := IntWalk.i64_in _ (by omega)
    have p1 : 0 ≤ a + n := by omega
    have p2 : a ≤ a + n := by omega
    have p3 : a.toNat ≤ (a + n).toNat := by omega
    have p4 : (a + n).toNat ≤ m.size := by omega
    go_enter Try.func15, Try.ntmps15
    go_wp2_with (go_at_call 28; refine (fits m a n _ hm h0 h1 n0 (by omega)).mono ?_; rintro e w' ⟨rfl, rfl⟩)
    repeat' (first | go_values | go_skip | go_guarded | (with_reducible (first | refine ex_then_ret ?_ | refine ex_then_exit ?_ | refine ex_then_normal ?_ | refine ex_block_ret ?_ | refine ex_block_normal ?_ | refine ex_block_same ?_ | refine ex_block_other (by decide) ?_)) | go_step | go_upon | go_quiet (fail))
    all_goals go_ret2
    all_goals exact ⟨rfl, (by repeat (with_reducible (first | exact Below.refl _ _ | assumption | refine Below.to ?_ (by assumption) | refine below_drewN ?_ _ | refine Below.alloc ?_ (by first | (simp; done) | omega | (simp; omega) | (simp at *; omega)) _ | refine Below.setCell ?_ (by first | (simp; done) | omega | (simp; omega) | (simp at *; omega)) _ | refine Below.drew ?_)))⟩
  · rw [if_neg hw, if_neg hw]
    have hn : Sg.has m a n = false := by simpa using hw
    go_enter Try.func15, Try.ntmps15
    go_wp2_with (go_at_call 28; refine (fits m a n _ hm h0 h1 n0 (by omega)).mono ?_; rintro e w' ⟨rfl, rfl⟩)
    all_goals go_ret2
    all_goals exact ⟨rfl, (by repeat (with_reducible (first | exact Below.refl _ _ | assumption | refine Below.to ?_ (by assumption) | refine below_drewN ?_ _ | refine Below.alloc ?_ (by first | (simp; done) | omega | (simp; omega) | (simp at *; omega)) _ | refine Below.setCell ?_ (by first | (simp; done) | omega | (simp; omega) | (simp at *; omega)) _ | refine Below.drew ?_)))⟩

set_option maxHeartbeats 1000000 in
theorem In (m : ByteArray) (a : Int) (s : ByteArray) (w : World) (hm : m.size ≤ 140737488355328) (hs : s.size ≤ 140737488355328) (h0 : 0 ≤ a) (h1 : a < 4294967296) :
    Calls Try.prog 17 #[.string m, .int .u32 a, .string s] w (Gives (.tuple #[.string (Sg.inM m a s), .int .i64 (Sg.inE m a s)]) w) := by
  unfold Sg.inM Sg.inE
  by_cases hw : Sg.has m a s.size = true
  · rw [if_pos hw, if_pos hw]
    obtain ⟨k, rfl⟩ := Int.eq_ofNat_of_zero_le h0
    have hf : k + s.size ≤ m.size := by simp only [Sg.has, decide_eq_true_eq] at hw; omega
    have q1 : IntKind.i64.wrap ((k : Int) + (s.size : Int)) = (k : Int) + (s.size : Int) := IntWalk.i64_in _ (by omega)
    have p1 : 0 ≤ (k : Int) + (s.size : Int) := by omega
    have p2 : ((k : Int) + (s.size : Int)).toNat = k + s.size := by omega
    have x1 : k ≤ m.size := by omega
    have x2 : (k : Int) + (s.size : Int) ≤ (m.size : Int) := by omega
    go_enter Try.func17, Try.ntmps17
    go_wp2_with (go_at_call 28; refine (fits m k s.size _ hm (by omega) h1 (by omega) (by omega)).mono ?_; rintro e w' ⟨rfl, rfl⟩)
    repeat' (first | go_values | go_skip | go_guarded | (with_reducible (first | refine ex_then_ret ?_ | refine ex_then_exit ?_ | refine ex_then_normal ?_ | refine ex_block_ret ?_ | refine ex_block_normal ?_ | refine ex_block_same ?_ | refine ex_block_other (by decide) ?_)) | go_step | go_upon | go_quiet (fail))
    all_goals go_ret2
    all_goals exact gives_of (two_str (cat_put_str hf) rfl) (by repeat (with_reducible (first | exact Below.refl _ _ | assumption | refine Below.to ?_ (by assumption) | refine below_drewN ?_ _ | refine Below.alloc ?_ (by first | (simp; done) | omega | (simp; omega) | (simp at *; omega)) _ | refine Below.setCell ?_ (by first | (simp; done) | omega | (simp; omega) | (simp at *; omega)) _ | refine Below.drew ?_)))
  · rw [if_neg hw, if_neg hw]
    have hn : Sg.has m a s.size = false := by simpa using hw
    go_enter Try.func17, Try.ntmps17
    go_wp2_with (go_at_call 28; refine (fits m a s.size _ hm h0 h1 (by omega) (by omega)).mono ?_; rintro e w' ⟨rfl, rfl⟩)
    all_goals go_ret2
    all_goals exact ⟨rfl, (by repeat (with_reducible (first | exact Below.refl _ _ | assumption | refine Below.to ?_ (by assumption) | refine below_drewN ?_ _ | refine Below.alloc ?_ (by first | (simp; done) | omega | (simp; omega) | (simp at *; omega)) _ | refine Below.setCell ?_ (by first | (simp; done) | omega | (simp; omega) | (simp at *; omega)) _ | refine Below.drew ?_)))⟩

/-- a row of bytes, B or later: what it holds, that the rest of it is there and free -/
def Rw (B : Nat) (W : World) (v : Value) (l : List UInt8) : Prop :=
  ∃ b cap, v = .slice (some ⟨b, 0, none⟩) l.length cap ∧ B ≤ b ∧ b < W.heap.size ∧ l.length ≤ cap ∧ (∀ j, j < l.length → W.cell? ⟨b, j, none⟩ = some (.int .u8 ((l.getD j 0).toNat : Int))) ∧
    (∀ j, j < cap → (W.cell? ⟨b, j, none⟩).isSome = true) ∧ ∀ j, j < cap → W.frozen? ⟨b, j, none⟩ = false
def lenV : Value → Nat
  | .slice _ n _ => n
  | _ => 0
theorem getD_snoc (l : List UInt8) (x : UInt8) (j : Nat) (h : j < l.length) : (l ++ [x]).getD j 0 = l.getD j 0 := by
  rw [List.getD_eq_getElem?_getD, List.getD_eq_getElem?_getD, List.getElem?_append_left h]
theorem getD_last (l : List UInt8) (x : UInt8) : (l ++ [x]).getD l.length 0 = x := by
  rw [List.getD_eq_getElem?_getD, List.getElem?_append_right (Nat.le_refl _), Nat.sub_self]
  rfl

theorem rw_room {B : Nat} {W : World} {l : List UInt8} {b cap : Nat} (O : Obj) (hB : B ≤ b) (hb : b < W.heap.size) (hc : ∀ j, j < l.length → W.cell? ⟨b, j, none⟩ = some (.int .u8 ((l.getD j 0).toNat : Int)))
    (hs : ∀ j, j < cap → (W.cell? ⟨b, j, none⟩).isSome = true) (hf : ∀ j, j < cap → W.frozen? ⟨b, j, none⟩ = false) (hr : l.length + 1 ≤ cap) :
    Rw B ((W.alloc O).setCells b (0 + l.length * 1) [.int .u8 0]) (.slice (some ⟨b, 0, none⟩) (l.length + 1) cap) (l ++ [0]) := by
  have hold : ∀ o, (W.alloc O).cell? ⟨b, o, none⟩ = W.cell? ⟨b, o, none⟩ := fun o => ((Below.refl W.heap.size W).alloc (Nat.le_refl _) O).cell (p := ⟨b, o, none⟩) hb
  have holdf : ∀ o, (W.alloc O).frozen? ⟨b, o, none⟩ = W.frozen? ⟨b, o, none⟩ := fun o => ((Below.refl W.heap.size W).alloc (Nat.le_refl _) O).frozen (p := ⟨b, o, none⟩) hb
  have e1 : 0 + l.length * 1 = l.length := by omega
  rw [e1]
  have hset : ∀ o, ((W.alloc O).setCells b l.length [.int .u8 0]).cell? ⟨b, o, none⟩ = if o = l.length then some (.int .u8 0) else W.cell? ⟨b, o, none⟩ := by
    intro o
    show ((W.alloc O).setCell ⟨b, l.length, none⟩ (.int .u8 0)).cell? ⟨b, o, none⟩ = _
    by_cases h : o = l.length
    · subst h
      rw [if_pos rfl]
      obtain ⟨v, hv⟩ := Option.isSome_iff_exists.1 (hs l.length (by omega))
      exact World.cell?_setCell_same _ _ _ ((hold _).trans hv)
    · rw [if_neg h, World.cell?_setCell_other _ _ _ _ (by intro e; injection e; omega), hold]
  refine ⟨b, cap, by simp, hB, ?_, by simpa using hr, ?_, ?_, ?_⟩
  · show b < ((W.alloc O).setCell ⟨b, l.length, none⟩ (.int .u8 0)).heap.size
    simp; omega
  · intro j hj
    rw [hset]
    by_cases h : j = l.length
    · subst h; rw [if_pos rfl, getD_last]; rfl
    · have : j < l.length := by simp at hj; omega
      rw [if_neg h, hc j this, getD_snoc _ _ _ this]
  · intro j hj
    rw [hset]
    split
    · rfl
    · exact hs j hj
  · intro j hj
    rw [World.frozen?_setCells, holdf]
    exact hf j hj
theorem rw_grow {B n0 : Nat} {W' : World} {l : List UInt8} {v : Value} {E : TypeId} (hB : B ≤ n0) (h : W'.ownsRow n0 E 1 v (l.length + 1) (l.map (fun x => Value.int .u8 (x.toNat : Int)) ++ [.int .u8 0])) : Rw B W' v (l ++ [0]) := by
  obtain ⟨_, h | ⟨g, cap, cur, rfl, hg, hcur, hn, _, hsz, htk⟩⟩ := h
  · exact absurd h.2 (by omega)
  have hb : g < W'.heap.size := (Array.getElem?_eq_some_iff.1 hcur).1
  have hcell : ∀ j, j < cap → W'.cell? ⟨g, j, none⟩ = cur[j]? := fun j hj => by simp [World.cell?, hcur]
  refine ⟨g, cap, by simp, by omega, hb, by simpa using hn, ?_, ?_, ?_⟩
  · intro j hj
    have hj' : j < l.length + 1 := by simpa using hj
    rw [hcell j (by omega)]
    have hx : cur.toList[j]? = (l.map (fun x => Value.int .u8 (x.toNat : Int)) ++ [Value.int .u8 0])[j]? := by
      rw [← htk, List.getElem?_take, if_pos (by omega)]
    rw [← Array.getElem?_toList, hx]
    by_cases hl : j < l.length
    · rw [List.getElem?_append_left (by simpa using hl), List.getElem?_map, List.getElem?_eq_getElem hl, getD_snoc _ _ _ hl, List.getD_eq_getElem?_getD, List.getElem?_eq_getElem hl]
      rfl
    · obtain rfl : j = l.length := by omega
      rw [List.getElem?_append_right (by simp), getD_last]
      simp
  · intro j hj
    rw [hcell j hj, Array.getElem?_eq_getElem (by omega)]
    rfl
  · intro j hj
    simp [World.frozen?, hcur]

theorem info_u8 : (Try.prog.info? 5).map (fun i => (i.zero, i.size, i.bytes)) = some (some (.int .u8 0), 1, 1) := by kernel_rfl
theorem cell_alloc_old {w : World} {O : Obj} {b o : Nat} (h : b < w.heap.size) : (w.alloc O).cell? ⟨b, o, none⟩ = w.cell? ⟨b, o, none⟩ :=
  ((Below.refl w.heap.size w).alloc (Nat.le_refl _) O).cell (p := ⟨b, o, none⟩) h
def Inv (w : World) (s : ByteArray) (n : Nat) (v : Value) (wr : World) : Prop := ∃ k, s.size + k ≤ n ∧ Rw w.heap.size wr v (s.data.toList ++ List.replicate k 0) ∧ Below w.heap.size w wr

set_option maxHeartbeats 1000000 in
theorem Make_yes (n : Int) (s : ByteArray) (w : World) (h0 : 0 ≤ n) (h1 : n ≤ 1024) (h2 : s.size ≤ n) :
    Calls Try.prog 19 #[.int .i64 n, .string s] w (Gives (.tuple #[.string ⟨(s.data.toList ++ List.replicate (n - s.size).toNat 0).toArray⟩, .int .i64 0]) w) := by
  have hcv := run_bytes_of_string (P := Try.prog) w 9 53 5 s Try.underlying9 Try.underlying53 Try.underlying5
  have hge := grownCap_ge w s.size 0 5
  generalize grownCap w s.size 0 5 = cap at hcv hge
  go_enter Try.func19, Try.ntmps19
  repeat' (first | go_values | go_skip | go_guarded | (with_reducible (first | refine ex_then_ret ?_ | refine ex_then_exit ?_ | refine ex_then_normal ?_ | refine ex_block_ret ?_ | refine ex_block_normal ?_ | refine ex_block_same ?_ | refine ex_block_other (by decide) ?_)) | go_step | go_upon)
  go_loopw [6] (fun v wr => Inv w s n.toNat v wr) (fun v _ => n.toNat - lenV v)
  case atStart =>
    have el : s.data.toList.length = s.size := Array.length_toList
    refine ⟨0, by omega, ⟨w.heap.size, cap, ?_, Nat.le_refl _, by simp, ?_, ?_, ?_, ?_⟩, (by repeat (with_reducible (first | exact Below.refl _ _ | assumption | refine Below.to ?_ (by assumption) | refine below_drewN ?_ _ | refine Below.alloc ?_ (by first | (simp; done) | omega | (simp; omega) | (simp at *; omega)) _ | refine Below.setCell ?_ (by first | (simp; done) | omega | (simp; omega) | (simp at *; omega)) _ | refine Below.drew ?_)))⟩
    · rw [List.replicate_zero, List.append_nil, el]
    · rw [List.replicate_zero, List.append_nil, el]; exact hge
    · intro j hj
      rw [List.replicate_zero, List.append_nil] at hj ⊢
      exact Sg.row_cell w s cap _ _ j (by omega)
    · intro j hj
      show ((w.alloc (.cells (bytesRow s cap) 5 ((bytesRow s cap).size, (bytesRow s cap).size + 1))).cell? ⟨w.heap.size, j, none⟩).isSome = true
      rw [World.cell?_alloc_mark, Array.getElem?_eq_getElem (by simp [bytesRow]; have : s.data.size = s.size := rfl; omega)]
      rfl
    · intro j hj
      show (w.alloc (.cells (bytesRow s cap) 5 ((bytesRow s cap).size, (bytesRow s cap).size + 1))).frozen? ⟨w.heap.size, j, none⟩ = false
      rw [World.frozen?_alloc_mark]
      simp [bytesRow]
      have : s.data.size = s.size := rfl
      omega
  case round =>
    obtain ⟨i0, hi, hz0, hz1, hz2⟩ := info_parts info_u8
    obtain ⟨k, hk, ⟨b, cp, rfl, hB, hb, hcap, hc, hs, hf⟩, hbel⟩ := hrel
    have el : s.data.toList.length = s.size := Array.length_toList
    have hl : (s.data.toList ++ List.replicate k 0).length = s.size + k := by rw [List.length_append, List.length_replicate, el]
    have hsucc : Hid (s.data.toList ++ List.replicate k 0 ++ [0] = s.data.toList ++ List.replicate (k + 1) 0) := Lib.hid (by rw [List.append_assoc, List.replicate_succ' ])
    have hfin : Hid (s.size + k = n.toNat → (⟨(s.data.toList ++ List.replicate k 0).toArray⟩ : ByteArray) = ⟨(s.data.toList ++ List.replicate (n - s.size).toNat 0).toArray⟩) := Lib.hid (fun h => by rw [show (n - s.size).toNat = k by omega])
    generalize s.data.toList ++ List.replicate k 0 = L at hcap hc hl hsucc hfin
    have HL := Lib.hid hl
    have hle : L.length ≤ 1024 := by omega
    have hle2 : L.length ≤ n.toNat := by omega
    have hbs := hbel.size
    have HB := Lib.hid hbel
    have HC := Lib.hid hc
    have HS := Lib.hid hs
    have HF := Lib.hid hf
    clear hl hbel hc hs hf el
    by_cases hlt : (L.length : Int) < n
    · go_wp2_with (at_builtin; go_loud (refine wpList_append_arg _ rfl _ _ 53 rfl 5 i0 (.int .u8 0) 1 1 Try.underlying53 hi hz0 hz1 hz2 rfl (by decide) b 0 L.length cp (L.map (fun x => Value.int .u8 (x.toNat : Int))) rfl ?ga ?gb ⟨wr.heap.size, 0, none⟩ 1 1 [.int .u8 0] rfl rfl ?gc ?gd ?ge ?gf ?gg ?gh ?gi))
      case ga => rw [List.length_map, Nat.mul_one]
      case gb =>
        intro j u hj
        rw [Nat.zero_add]
        have hjl : j < L.length := by
          have := (List.getElem?_eq_some_iff.1 hj).1
          simpa using this
        rw [cell_alloc_old hb, HC.out j hjl, ← hj, List.getElem?_map, List.getElem?_eq_getElem hjl, List.getD_eq_getElem?_getD, List.getElem?_eq_getElem hjl]
        rfl
      case gc =>
        intro j u hj
        have hj0 : j < 1 := (List.getElem?_eq_some_iff.1 hj).1
        obtain rfl : j = 0 := by omega
        have ha : (⟨wr.heap.size, 0, none⟩ : Addr).add 0 = ⟨wr.heap.size, 0, none⟩ := by unfold Addr.add; split <;> simp_all
        rw [ha, World.cell?_alloc_mark]
        exact hj
      case gd =>
        intro u hu
        simp only [List.mem_singleton] at hu
        subst hu
        rfl
      case ge =>
        intro hr j hj
        have hj0 : j < 1 := hj
        obtain rfl : j = 0 := by omega
        rw [show 0 + L.length * 1 + 0 = L.length by omega, cell_alloc_old hb]
        exact ⟨HS.out _ (by omega), (((Below.refl wr.heap.size wr).alloc (Nat.le_refl _) _).frozen (p := ⟨b, L.length, none⟩) hb).trans (HF.out _ (by omega))⟩
      case gf => unfold maxLen; omega
      case gg => omega
      case gh =>
        intro hr
        have HR := rw_room (.cells #[.int .u8 0] 5) hB hb HC.out HS.out HF.out hr
        rw [hsucc.out] at HR
        have hbw : Below w.heap.size w ((wr.alloc (.cells #[.int .u8 0] 5)).setCells b (0 + L.length * 1) [.int .u8 0]) := Go.below_setCells hB _ _ _ (HB.out.alloc hbs _)
        rw [show 0 + L.length * 1 = L.length by omega] at HR hbw
        generalize (wr.alloc (.cells #[.int .u8 0] 5)).setCells b L.length [.int .u8 0] = w3 at HR hbw ⊢
        have HR' := Lib.hid HR
        have HBW := Lib.hid hbw
        clear HR hbw
        go_wp2_with fail
        go_roundw
        case rel => exact ⟨k + 1, by have := HL.out; omega, HR'.out, HBW.out⟩
        case measure => simp [lenV]; omega
      case gi =>
        intro hr v' w' hown hgrow
        have hw' : wr.heap.size + 1 ≤ w'.heap.size := by have := hgrow.size; simp at this; omega
        have HR : Rw w.heap.size w' v' (L ++ [0]) := rw_grow (by omega) hown
        rw [hsucc.out] at HR
        have hbw : Below w.heap.size w w' := (HB.out.alloc hbs _).grown hgrow (by simp; omega) (fun _ h => by cases h)
        have hlen : lenV v' = L.length + 1 := by
          obtain ⟨_, _, rfl, _⟩ := HR
          have hx := congrArg List.length hsucc.out
          simp only [List.length_append, List.length_singleton] at hx
          show (s.data.toList ++ List.replicate (k + 1) 0).length = _
          rw [List.length_append]
          omega
        have HR' := Lib.hid HR
        have HBW := Lib.hid hbw
        have HLEN := Lib.hid hlen
        clear HR hbw hlen hown hgrow
        go_wp2_with fail
        go_roundw
        case rel => exact ⟨k + 1, by have := HL.out; omega, HR'.out, HBW.out⟩
        case measure => rw [HLEN.out]; simp [lenV]; omega
    · have hc' : ∀ j (hj : j < L.length), wr.cell? ((⟨b, 0, none⟩ : Addr).add j) = some (.int .u8 (L[j].toNat : Int)) := fun j hj => by
        have ha : (⟨b, 0, none⟩ : Addr).add j = ⟨b, j, none⟩ := by unfold Addr.add; split <;> simp_all
        rw [ha, HC.out j hj, List.getD_eq_getElem?_getD, List.getElem?_eq_getElem hj]
        rfl
      have hback := run_convert_bytes_back (P := Try.prog) wr 53 9 5 ⟨b, 0, none⟩ cp L Try.underlying53 Try.underlying5 Try.underlying9 hc'
      clear hc'
      have hall := hfin.out (by have := HL.out; omega)
      have HB' := HB.out
      go_wp2_with fail
      go_ret2
      exact gives_of (two_str (by first | rfl | exact hall) rfl) (by repeat (with_reducible (first | exact Below.refl _ _ | assumption | refine Below.to ?_ (by assumption) | refine below_drewN ?_ _ | refine Below.alloc ?_ (by first | (simp; done) | omega | (simp; omega) | (simp at *; omega)) _ | refine Below.setCell ?_ (by first | (simp; done) | omega | (simp; omega) | (simp at *; omega)) _ | refine Below.drew ?_)))

set_option maxHeartbeats 1000000 in
theorem Make (n : Int) (s : ByteArray) (w : World) :
    Calls Try.prog 19 #[.int .i64 n, .string s] w (Gives (.tuple #[.string (Sg.makeM n s), .int .i64 (Sg.makeE n s)]) w) := by
  unfold Sg.makeM Sg.makeE
  by_cases h : n < 0 ∨ 1024 < n
  · rw [if_neg (by omega), if_pos h]
    go_enter Try.func19, Try.ntmps19
    go_wp2_with fail
    all_goals (first | go_ret2 | (exfalso; simp at *; omega))
    all_goals exact ⟨rfl, (by repeat (with_reducible (first | exact Below.refl _ _ | assumption | refine Below.to ?_ (by assumption) | refine below_drewN ?_ _ | refine Below.alloc ?_ (by first | (simp; done) | omega | (simp; omega) | (simp at *; omega)) _ | refine Below.setCell ?_ (by first | (simp; done) | omega | (simp; omega) | (simp at *; omega)) _ | refine Below.drew ?_)))⟩
  · rw [if_neg h]
    by_cases h2 : n < s.size
    · rw [if_neg (by omega), if_pos h2]
      have h3 : 0 ≤ n := by omega
      have h4 : n ≤ 1024 := by omega
      go_enter Try.func19, Try.ntmps19
      go_wp2_with fail
      all_goals go_ret2
      all_goals exact ⟨rfl, (by repeat (with_reducible (first | exact Below.refl _ _ | assumption | refine Below.to ?_ (by assumption) | refine below_drewN ?_ _ | refine Below.alloc ?_ (by first | (simp; done) | omega | (simp; omega) | (simp at *; omega)) _ | refine Below.setCell ?_ (by first | (simp; done) | omega | (simp; omega) | (simp at *; omega)) _ | refine Below.drew ?_)))⟩
    · rw [if_pos (by omega), if_neg h2]
      exact Make_yes n s w (by omega) (by omega) (by omega)
end RSeg

namespace LawRows
set_option maxHeartbeats 4000000 in
theorem core (m s x y z : ByteArray) (a n size e g i : Int) (w : World)
    (H1 : Hid (∀ W, Calls Try.prog 13 #[.string m, .int .u32 a, .int .u32 n] W (Is (.tuple #[.string x, .int .i64 e]) W)))
    (H2 : Hid (∀ W, Calls Try.prog 15 #[.string m, .int .u32 a, .int .u32 n] W (Gives (.tuple #[.string x, .int .i64 e]) W)))
    (H3 : Hid (∀ W, Calls Try.prog 16 #[.string m, .int .u32 a, .string s] W (Gives (.tuple #[.string y, .int .i64 g]) W)))
    (H4 : Hid (∀ W, Calls Try.prog 17 #[.string m, .int .u32 a, .string s] W (Gives (.tuple #[.string y, .int .i64 g]) W)))
    (H5 : Hid (∀ W, Calls Try.prog 18 #[.int .i64 size, .string s] W (Gives (.tuple #[.string z, .int .i64 i]) W)))
    (H6 : Hid (∀ W, Calls Try.prog 19 #[.int .i64 size, .string s] W (Gives (.tuple #[.string z, .int .i64 i]) W)))
    (e0 : 0 ≤ e) (e1 : e ≤ 10) (g0 : 0 ≤ g) (g1 : g ≤ 10) (i0 : 0 ≤ i) (i1 : i ≤ 10) :
    Calls Try.prog 6 #[.agg #[.string m, .int .u32 a, .int .u32 n, .string s, .int .i64 size]] w (Gives (.bool true) w) := by
  go_enter Try.func6, Try.ntmps6
  repeat' (first | (go_at_call 10; refine (shown _).mono ?_; rintro e w1 ⟨rfl, hb1⟩; dsimp only) | (go_at_call 13; refine (H1.out _).mono ?_; rintro e w' ⟨rfl, rfl⟩; dsimp only) | go_values | go_skip | go_guarded | (with_reducible (first | refine ex_then_ret ?_ | refine ex_then_exit ?_ | refine ex_then_normal ?_ | refine ex_block_ret ?_ | refine ex_block_normal ?_ | refine ex_block_same ?_ | refine ex_block_other (by decide) ?_)) | go_step | go_upon)
  refine (H2.out _).mono ?_
  rintro e w2 ⟨rfl, hb2⟩
  dsimp only
  repeat' (first | go_values | go_skip | go_guarded | (with_reducible (first | refine ex_then_ret ?_ | refine ex_then_exit ?_ | refine ex_then_normal ?_ | refine ex_block_ret ?_ | refine ex_block_normal ?_ | refine ex_block_same ?_ | refine ex_block_other (by decide) ?_)) | go_step | go_upon)
  refine (H3.out _).mono ?_
  rintro e w3 ⟨rfl, hb3⟩
  dsimp only
  repeat' (first | go_values | go_skip | go_guarded | (with_reducible (first | refine ex_then_ret ?_ | refine ex_then_exit ?_ | refine ex_then_normal ?_ | refine ex_block_ret ?_ | refine ex_block_normal ?_ | refine ex_block_same ?_ | refine ex_block_other (by decide) ?_)) | go_step | go_upon)
  refine (H4.out _).mono ?_
  rintro e w4 ⟨rfl, hb4⟩
  dsimp only
  repeat' (first | go_values | go_skip | go_guarded | (with_reducible (first | refine ex_then_ret ?_ | refine ex_then_exit ?_ | refine ex_then_normal ?_ | refine ex_block_ret ?_ | refine ex_block_normal ?_ | refine ex_block_same ?_ | refine ex_block_other (by decide) ?_)) | go_step | go_upon)
  refine (H5.out _).mono ?_
  rintro e w5 ⟨rfl, hb5⟩
  dsimp only
  repeat' (first | go_values | go_skip | go_guarded | (with_reducible (first | refine ex_then_ret ?_ | refine ex_then_exit ?_ | refine ex_then_normal ?_ | refine ex_block_ret ?_ | refine ex_block_normal ?_ | refine ex_block_same ?_ | refine ex_block_other (by decide) ?_)) | go_step | go_upon)
  refine (H6.out _).mono ?_
  rintro e w6 ⟨rfl, hb6⟩
  dsimp only
  repeat' (first | go_values | go_skip | go_guarded | (with_reducible (first | refine ex_then_ret ?_ | refine ex_then_exit ?_ | refine ex_then_normal ?_ | refine ex_block_ret ?_ | refine ex_block_normal ?_ | refine ex_block_same ?_ | refine ex_block_other (by decide) ?_)) | go_step | go_upon)
  all_goals go_ret
  all_goals refine gives_bool ?_ (by repeat (with_reducible (first | exact Below.refl _ _ | assumption | refine Below.to ?_ (by assumption) | refine below_drewN ?_ _ | refine Below.alloc ?_ (by first | (simp; done) | omega | (simp; omega) | (simp at *; omega)) _ | refine Below.setCell ?_ (by first | (simp; done) | omega | (simp; omega) | (simp at *; omega)) _ | refine Below.drew ?_)))
  all_goals (first | rfl | (simp; done) | (simp; omega))
theorem walk (m s : ByteArray) (a n size : Int) (w : World) (hm : m.size ≤ 140737488355328) (hs : s.size ≤ 140737488355328) (h0 : 0 ≤ a) (h1 : a < 4294967296) (n0 : 0 ≤ n) (n1 : n < 4294967296) :
    Calls Try.prog 6 #[.agg #[.string m, .int .u32 a, .int .u32 n, .string s, .int .i64 size]] w (Gives (.bool true) w) := by
  refine core m s _ _ _ a n size _ _ _ w (Lib.hid fun W => Seg.Out m a n W hm h0 h1 n0 n1) (Lib.hid fun W => RSeg.Out m a n W hm h0 h1 n0 n1) (Lib.hid fun W => Seg.In m a s W hm hs h0 h1) (Lib.hid fun W => RSeg.In m a s W hm hs h0 h1)
    (Lib.hid fun W => Seg.Make size s W) (Lib.hid fun W => RSeg.Make size s W) ?_ ?_ ?_ ?_ ?_ ?_
  · unfold Sg.outE; split <;> omega
  · unfold Sg.outE; split <;> omega
  · unfold Sg.inE; split <;> omega
  · unfold Sg.inE; split <;> omega
  · unfold Sg.makeE; split <;> (try split) <;> omega
  · unfold Sg.makeE; split <;> (try split) <;> omega
end LawRows
end Go.Proofs.Ytbneagebeacofaa
