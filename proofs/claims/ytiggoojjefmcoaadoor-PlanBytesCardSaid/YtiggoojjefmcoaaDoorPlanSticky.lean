/- The plan of bytes, taken as the program takes it: what went wrong first sticks. No condition. -/
import Derived.Test.YtiggoojjefmcoaaDoorPlanCutPlain
set_option linter.unusedVariables false
set_option linter.unusedSimpArgs false
namespace Go.Proofs.YtiggoojjefmcoaaDoor.Pl
/-- what is left to read, or what went wrong -/
abbrev St := Except Nat (List UInt8)
def numS (m : Nat) : St → Int × St
  | .error c => (0, .error c)
  | .ok l =>
    match num m l with
    | .error c => (0, .error c)
    | .ok (x, t) => (x, .ok t)
def anysS : Nat → St → List Int × St
  | 0, st => ([], st)
  | n + 1, st => ((numS 65536 st).1 :: (anysS n (numS 65536 st).2).1, (anysS n (numS 65536 st).2).2)
def rowsS (sz : Nat) : Nat → St → List (List Int) × St
  | 0, st => ([], st)
  | n + 1, st => ((anysS sz st).1 :: (rowsS sz n (anysS sz st).2).1, (rowsS sz n (anysS sz st).2).2)
def winsS : Nat → St → List (List (List Int)) × St
  | 0, st => ([], st)
  | n + 1, st => ((rowsS 3 (numS 8 st).1.toNat (numS 8 st).2).1 :: (winsS n (rowsS 3 (numS 8 st).1.toNat (numS 8 st).2).2).1, (winsS n (rowsS 3 (numS 8 st).1.toNat (numS 8 st).2).2).2)
theorem numS_err (m c : Nat) : numS m (.error c) = (0, .error c) := rfl
theorem anysS_err (c : Nat) : ∀ n, (anysS n (.error c)).2 = .error c
  | 0 => rfl
  | n + 1 => anysS_err c n
theorem rowsS_err {sz : Nat} (c : Nat) : ∀ n, (rowsS sz n (.error c)).2 = .error c
  | 0 => rfl
  | n + 1 => by simp only [rowsS, anysS_err]; exact rowsS_err c n
theorem winsS_err (c : Nat) : ∀ n, (winsS n (.error c)).2 = .error c
  | 0 => rfl
  | n + 1 => by simp only [winsS, numS_err, rowsS_err]; exact winsS_err c n
/-- the strict answer out of the sticky one -/
def out {α : Type} (x : α × St) : Except Nat (α × List UInt8) :=
  match x.2 with
  | .error c => .error c
  | .ok t => .ok (x.1, t)
theorem num_out (m : Nat) (l : List UInt8) : num m l = out (numS m (.ok l)) := by
  simp only [numS, out]
  match num m l with
  | .error c => rfl
  | .ok (x, t) => rfl
theorem anys_out : ∀ (n : Nat) (l : List UInt8), anys n l = out (anysS n (.ok l))
  | 0, l => rfl
  | n + 1, l => by
    simp only [anys, anysS, num_out]
    match h : numS 65536 (.ok l) with
    | (x, .error c) =>
      simp only [out, anysS_err]
    | (x, .ok t) =>
      simp only [out]
      rw [anys_out n t]
      simp only [out]
      match (anysS n (.ok t)).2 with
      | .error c => rfl
      | .ok u => rfl
theorem rowsN_out {sz : Nat} : ∀ (n : Nat) (l : List UInt8), rowsN sz n l = out (rowsS sz n (.ok l))
  | 0, l => rfl
  | n + 1, l => by
    simp only [rowsN, rowsS, anys_out]
    match h : anysS sz (.ok l) with
    | (x, .error c) => simp only [out, rowsS_err]
    | (x, .ok t) =>
      simp only [out]
      rw [rowsN_out n t]
      simp only [out]
      match (rowsS sz n (.ok t)).2 with
      | .error c => rfl
      | .ok u => rfl
theorem winsN_out : ∀ (n : Nat) (l : List UInt8), winsN n l = out (winsS n (.ok l))
  | 0, l => rfl
  | n + 1, l => by
    simp only [winsN, winsS, num_out]
    match h : numS 8 (.ok l) with
    | (c, .error e) => simp only [out, rowsS_err, winsS_err]
    | (c, .ok t) =>
      simp only [out]
      rw [rowsN_out c.toNat t]
      simp only [out]
      match h2 : rowsS 3 c.toNat (.ok t) with
      | (q, .error e) => simp only [winsS_err]
      | (q, .ok u) =>
        simp only
        rw [winsN_out n u]
        simp only [out]
        match (winsS n (.ok u)).2 with
        | .error c => rfl
        | .ok u => rfl
/-- the stages -/
def ps1 (l : List UInt8) := numS 4 (.ok l)
def ps2 (l : List UInt8) := rowsS 4 (ps1 l).1.toNat (ps1 l).2
def ps3 (l : List UInt8) := numS 65536 (ps2 l).2
def ps4 (l : List UInt8) := numS 3 (ps3 l).2
def ps5 (l : List UInt8) := winsS (ps4 l).1.toNat (ps4 l).2
def ps6 (l : List UInt8) := numS 6 (ps5 l).2
def ps7 (l : List UInt8) := rowsS 5 (ps6 l).1.toNat (ps6 l).2
def planS (l : List UInt8) : Plan := ⟨(ps2 l).1, (ps3 l).1, (ps5 l).1, (ps7 l).1⟩
def endS (l : List UInt8) : Except Nat Plan :=
  match (ps7 l).2 with
  | .error c => .error c
  | .ok t => if t = [] then .ok (planS l) else .error 3
theorem bnd_out {α β : Type} (x : α × St) (f : α × List UInt8 → Except Nat β) : bnd (out x) f = match x.2 with | .error c => .error c | .ok t => f (x.1, t) := by
  obtain ⟨a, st⟩ := x
  match st with
  | .error c => rfl
  | .ok t => rfl
theorem parse_endS (l : List UInt8) : parse l = endS l := by
  unfold parse
  rw [num_out, bnd_out]
  unfold endS ps7
  unfold ps6 ps5 ps4 ps3 ps2
  show (match (ps1 l).2 with | .error c => Except.error c | .ok t => bnd (rowsN 4 (ps1 l).1.toNat t) fin0) = _
  generalize hx1 : ps1 l = x1
  obtain ⟨n1, st1⟩ := x1
  match st1 with
  | .error c => simp only [rowsS_err, numS_err, winsS_err]
  | .ok t1 =>
    simp only
    rw [rowsN_out, bnd_out]
    generalize hx2 : rowsS 4 n1.toNat (.ok t1) = x2
    obtain ⟨q2, st2⟩ := x2
    match st2 with
    | .error c => simp only [rowsS_err, numS_err, winsS_err]
    | .ok t2 =>
      simp only [fin0]
      rw [num_out, bnd_out]
      generalize hx3 : numS 65536 (.ok t2) = x3
      obtain ⟨n3, st3⟩ := x3
      match st3 with
      | .error c => simp only [rowsS_err, numS_err, winsS_err]
      | .ok t3 =>
        simp only [fin1]
        rw [num_out, bnd_out]
        generalize hx4 : numS 3 (.ok t3) = x4
        obtain ⟨n4, st4⟩ := x4
        match st4 with
        | .error c => simp only [rowsS_err, numS_err, winsS_err]
        | .ok t4 =>
          simp only [fin2]
          rw [winsN_out, bnd_out]
          generalize hx5 : winsS n4.toNat (.ok t4) = x5
          obtain ⟨q5, st5⟩ := x5
          match st5 with
          | .error c => simp only [rowsS_err, numS_err]
          | .ok t5 =>
            simp only [fin3]
            rw [num_out, bnd_out]
            generalize hx6 : numS 6 (.ok t5) = x6
            obtain ⟨n6, st6⟩ := x6
            match st6 with
            | .error c => simp only [rowsS_err]
            | .ok t6 =>
              simp only [fin4]
              rw [rowsN_out, bnd_out]
              generalize hx7 : rowsS 5 n6.toNat (.ok t6) = x7
              obtain ⟨q7, st7⟩ := x7
              match st7 with
              | .error c => rfl
              | .ok t7 =>
                simp only [fin5, planS, ps7, ps6, ps5, ps4, ps3, ps2, hx1, hx2, hx3, hx4, hx5, hx6, hx7]
end Go.Proofs.YtiggoojjefmcoaaDoor.Pl
