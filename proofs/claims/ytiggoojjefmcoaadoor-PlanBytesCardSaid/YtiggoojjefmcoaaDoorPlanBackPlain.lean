/- A plan's bytes are the bytes of its plan, cut they are none, with a byte more they are none; what is taken is of these bytes. No condition. -/
import Derived.Test.YtiggoojjefmcoaaDoorPlanCutPlain
import Derived.Test.YtiggoojjefmcoaaDoorPlanBytes
import Derived.Test.YtiggoojjefmcoaaDoorPlanEq
set_option linter.unusedVariables false
set_option linter.unusedSimpArgs false
namespace Go.Proofs.YtiggoojjefmcoaaDoor
namespace Pl
theorem partB_r4 (r : List Int) : partB (r4 r) = partB r := rfl
theorem winE_r3 (np fr b : Int) (r : List Int) : winE np fr (r3 r) b = winE np fr r b := rfl
theorem chanB_r5 (np : Int) (r : List Int) : chanB np (r5 r) = chanB np r := rfl
theorem rowE_r3 (np fr : Int) : ∀ (l : List (List Int)) (b : Int), rowE np fr (l.map r3) b = rowE np fr l b
  | [], _ => rfl
  | x :: l, b => by
    have h0 : g (r3 x) 1 + g (r3 x) 2 = g x 1 + g x 2 := rfl
    rw [List.map_cons, rowE, rowE, winE_r3, rowE_r3 np fr l, h0]
theorem winsE_r3 (np fr : Int) : ∀ l : List (List (List Int)), winsE np fr (l.map rWin) = winsE np fr l
  | [] => rfl
  | x :: l => by rw [List.map_cons, winsE, winsE, winsE_r3 np fr l, rWin, rowE_r3]
theorem any_map' {α β : Type} (f : α → β) (p : β → Bool) (l : List α) : (l.map f).any p = l.any (fun x => p (f x)) := by rw [List.any_map]; rfl
theorem check_norm (P : Plan) : check (norm P) = check P := by
  have a1 : (norm P).ps.any (fun r => !partB r) = P.ps.any (fun r => !partB r) := any_map' _ _ _
  have a2 : (norm P).ws.any (fun l => decide (8 < l.length)) = P.ws.any (fun l => decide (8 < l.length)) := by
    rw [norm, any_map']
    simp only [rWin, List.length_map]
  have a3 : ∀ np, (norm P).cs.any (fun r => !chanB np r) = P.cs.any (fun r => !chanB np r) := fun np => any_map' _ _ _
  have a4 : ∀ np, winsE np (norm P).fr (norm P).ws = winsE np P.fr P.ws := fun np => winsE_r3 np P.fr P.ws
  have l1 : (norm P).ps.length = P.ps.length := by simp [norm]
  have l2 : (norm P).ws.length = P.ws.length := by simp [norm]
  have l3 : (norm P).cs.length = P.cs.length := by simp [norm]
  have l4 : (norm P).fr = P.fr := rfl
  rw [check, check, a1, a2, l1, l2, l3, a3, a4, l4]
theorem same_norm (P : Plan) : Plan.sameB P (norm P) = true := by
  have e : ∀ l : List (List (List Int)), (l.map rWin).map Plan.rW = l.map Plan.rW := by
    intro l
    rw [List.map_map]
    refine List.map_congr_left (fun x _ => ?_)
    simp only [Function.comp, rWin, Plan.rW, List.map_map]
    rfl
  simp only [Plan.sameB, norm, Bool.and_eq_true, decide_eq_true_eq, e, List.map_map]
  exact ⟨rfl, trivial, trivial, rfl⟩
theorem bytesS_list {P : Plan} (h : check P = 0) : (bytesS P).data.toList = 84 :: 80 :: (nums P).flatMap b2 := by
  rw [bytesS, if_pos h]
  rfl
theorem bytesS_size (P : Plan) : (bytesS P).size ≤ 300 := by
  by_cases h : check P = 0
  · have h1 := nums5_length h P.cs.length
    have h2 := enc_length (nums P)
    have h3 : (bytesS P).size = (enc (nums P)).length := by rw [bytesS, if_pos h]; exact List.size_toArray
    have h4 : (nums P).length ≤ 125 := h1
    omega
  · rw [bytesS, if_neg h]
    show (0 : Nat) ≤ 300
    omega
theorem parse_eq (s : List UInt8) : parse s = bnd (num 4 s) (fun x => bnd (rowsN 4 x.1.toNat x.2) fin0) := rfl
theorem take_bytes {P : Plan} (h : check P = 0) : take (bytesS P).data.toList = .ok (norm P) := by
  have hp := parse_nums h []
  rw [List.append_nil, ← parse_eq, if_pos rfl] at hp
  rw [bytesS_list h, take]
  simp only [List.take_succ_cons, List.take_zero, if_true, List.drop_succ_cons, List.drop_zero, hp, bnd, check_norm, h]
theorem take_more {P : Plan} {z : ByteArray} {x : UInt8} (h : check P = 0) (hz : z.data.toList = [x]) : take (bytesS P ++ z).data.toList = .error 3 := by
  have hp := parse_nums h [x]
  rw [← parse_eq, if_neg (by simp)] at hp
  rw [ByteArray.data_append, Array.toList_append, bytesS_list h, hz, take]
  simp only [List.cons_append, List.take_succ_cons, List.take_zero, if_true, List.drop_succ_cons, List.drop_zero, hp, bnd]
theorem cut_list (s : ByteArray) (k : Nat) : (s.extract 0 k).data.toList = s.data.toList.take k := by
  rw [ByteArray.data_extract, Array.toList_extract, List.extract_eq_take_drop, List.drop_zero, Nat.sub_zero]
theorem take_cut {P : Plan} {k : Nat} (h : check P = 0) (hk : k < (bytesS P).size) : take ((bytesS P).extract 0 k).data.toList = .error (if k < 2 then 3 else 2) := by
  have hl : (bytesS P).size = 2 + ((nums P).flatMap b2).length := by
    show (bytesS P).data.size = _
    rw [← Array.length_toList, bytesS_list h, List.length_cons, List.length_cons]
    omega
  rw [cut_list, bytesS_list h]
  match k, hk with
  | 0, _ => rfl
  | 1, _ => rfl
  | k + 2, hk =>
    have hp := parse_cut h (k := k) (by omega)
    rw [if_neg (by omega), take]
    simp only [List.take_succ_cons, List.take_zero, if_true, List.drop_succ_cons, List.drop_zero, hp, bnd]
theorem take_back {s : ByteArray} {Q : Plan} (h : take s.data.toList = .ok Q) : check Q = 0 ∧ bytesS Q = s ∧ Q.fr ≤ 9223372036854775807 := by
  rw [take] at h
  split at h
  · rename_i h2
    match hp : parse (s.data.toList.drop 2) with
    | .error c => rw [hp] at h; cases h
    | .ok P =>
      rw [hp] at h
      simp only [bnd] at h
      split at h
      · rename_i hc
        injection h with h
        subst h
        obtain ⟨_, hs, hf⟩ := parse_ok hp
        refine ⟨hc, ?_, by omega⟩
        refine ByteArray.ext (Array.ext' ?_)
        rw [bytesS_list hc, ← hs]
        show [84, 80] ++ _ = _
        rw [← h2, List.take_append_drop]
      · cases h
  · cases h
/-! of the cases of plan.Take -/
theorem err_of {s : List UInt8} {c : Int} {n : Nat} (h : take s = .error c.toNat) (h' : take s = .error n) (hn : n ≠ 0) : c = n := by
  rw [h'] at h
  injection h with h
  omega
theorem cut3 {P : Plan} {k : Nat} {c : Int} (h : check P = 0) (hk : k < (bytesS P).size) (h2 : k < 2) (h' : take ((bytesS P).extract 0 k).data.toList = .error c.toNat) : c = 3 := by
  have := take_cut h hk
  rw [if_pos h2] at this
  exact err_of (n := 3) h' this (by decide)
theorem cut2 {P : Plan} {k : Nat} {c : Int} (h : check P = 0) (hk : k < (bytesS P).size) (h2 : ¬ k < 2) (h' : take ((bytesS P).extract 0 k).data.toList = .error c.toNat) : c = 2 := by
  have := take_cut h hk
  rw [if_neg h2] at this
  exact err_of (n := 2) h' this (by decide)
theorem more3 {P : Plan} {z : ByteArray} {x : UInt8} {c : Int} (h : check P = 0) (hz : z.data.toList = [x]) (h' : take (bytesS P ++ z).data.toList = .error c.toNat) : c = 3 := err_of (n := 3) h' (take_more h hz) (by decide)
theorem ok_no {s : List UInt8} {P : Plan} {n : Nat} (h : take s = .ok P) (h' : take s = .error n) : False := by
  rw [h'] at h
  cases h
theorem err_no {s : List UInt8} {P : Plan} {n : Nat} (h : take s = .error n) (h' : take s = .ok P) : False := ok_no h' h
theorem ok_of {s : List UInt8} {P Q : Plan} (h : take s = .ok P) (h' : take s = .ok Q) : P = Q := by
  rw [h'] at h
  injection h with h
  exact h.symm
theorem cut_size (P : Plan) (k : Nat) : ((bytesS P).extract 0 k).size ≤ 140737488355328 := by
  have := bytesS_size P
  rw [ByteArray.size_extract]
  omega
theorem more_size {P : Plan} {z : ByteArray} {x : UInt8} (hz : z.data.toList = [x]) : (bytesS P ++ z).size ≤ 140737488355328 := by
  have := bytesS_size P
  have h1 : z.size = z.data.toList.length := (Array.length_toList (xs := z.data)).symm
  rw [hz] at h1
  rw [ByteArray.size_append, h1]
  simp
  omega
end Pl
end Go.Proofs.YtiggoojjefmcoaaDoor
