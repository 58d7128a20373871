/- What a plan asks, as plain functions: rows of numbers. No condition. -/
import Derived.WalkKit
namespace Go.Proofs.YtiggoojjefmcoaaDoor.Pl

def g (r : List Int) (j : Nat) : Int := r.getD j 0
def odd (x : Int) : Bool := decide (x < 1) || decide (3 < x)
def odd3 (x y z : Int) : Bool := odd x || (odd y || odd z)
def partB (r : List Int) : Bool := decide (64 ≤ g r 0) && (decide (g r 0 ≤ 1024) && ((g r 0 % 4 == 0) && !odd3 (g r 1) (g r 2) (g r 3)))
def chanB (np : Int) (r : List Int) : Bool :=
  decide ((g r 0 = 1 ∨ g r 0 = 2) ∧ 0 ≤ g r 1 ∧ g r 1 < np ∧ 0 ≤ g r 2 ∧ g r 2 < np ∧ g r 1 ≠ g r 2 ∧ 1 ≤ g r 3 ∧ g r 3 ≤ 32 ∧ 1 ≤ g r 4 ∧ g r 4 ≤ (if g r 0 = 1 then 1 else 8))
def winE (np fr : Int) (r : List Int) (behind : Int) : Int :=
  if g r 0 < 0 ∨ np ≤ g r 0 ∨ g r 1 < 0 ∨ g r 2 ≤ 2 ∨ fr < g r 2 ∨ fr - g r 2 < g r 1 then 1 else if g r 1 < behind then 9 else 0
def rowE (np fr : Int) : List (List Int) → Int → Int
  | [], _ => 0
  | r :: l, behind => if winE np fr r behind = 0 then rowE np fr l (g r 1 + g r 2) else winE np fr r behind
def winsE (np fr : Int) : List (List (List Int)) → Int
  | [] => 0
  | l :: ls => if rowE np fr l 0 = 0 then winsE np fr ls else rowE np fr l 0

structure Plan where
  ps : List (List Int)
  fr : Int
  ws : List (List (List Int))
  cs : List (List Int)

def check (p : Plan) : Int :=
  if 4 < p.ps.length ∨ 3 < p.ws.length ∨ 6 < p.cs.length ∨ p.ws.any (fun l => decide (8 < l.length)) = true then 4
  else if p.ps.length = 0 ∨ p.ws.length = 0 then 1
  else if p.ps.any (fun r => !partB r) = true ∨ p.fr < 1 ∨ 4096 < p.fr then 1
  else if winsE p.ps.length p.fr p.ws ≠ 0 then winsE p.ps.length p.fr p.ws
  else if p.cs.any (fun r => !chanB p.ps.length r) = true then 1 else 0
end Go.Proofs.YtiggoojjefmcoaaDoor.Pl
