/- The plain arithmetic of instructions and of one processor: what Does, May answer, as plain functions on numbers. No condition. -/
import Derived.WalkKit
namespace Go.Proofs.YtllemloicianmaaDoor.Cp

def tbl : List Int := [0, 5, 5, 3, 3, 3, 3, 3, 3, 3, 3, 3, 3, 5, 7, 7, 7, 7, 4, 5, 1, 7, 7, 7, 0]

def useA (op : Int) : Bool := op != 18 && op != 24
def useB (op : Int) : Bool := decide (3 ≤ op ∧ op ≤ 12) || decide (14 ≤ op ∧ op ≤ 17) || decide (21 ≤ op ∧ op ≤ 23)
def useI (op : Int) : Bool := op == 1 || op == 2 || decide (13 ≤ op ∧ op ≤ 19) || decide (21 ≤ op ∧ op ≤ 23)

/-- the limits of an instruction's parts -/
def lim (op a b i : Int) : Bool := decide (1 ≤ op ∧ op ≤ 24 ∧ 0 ≤ a ∧ a < 8 ∧ 0 ≤ b ∧ b < 8 ∧ -32768 ≤ i ∧ i ≤ 32767)
def may (op a b i : Int) : Bool := lim op a b i && (useA op || 0 == a) && (useB op || 0 == b) && (useI op || 0 == i)

theorem lim_iff {op a b i : Int} : lim op a b i = true ↔ (1 ≤ op ∧ op ≤ 24 ∧ 0 ≤ a ∧ a < 8 ∧ 0 ≤ b ∧ b < 8 ∧ -32768 ≤ i ∧ i ≤ 32767) := by simp [lim]

theorem tbl_bits (op : Int) (h1 : 1 ≤ op) (h2 : op ≤ 24) :
    (bits .and .i64 (tbl.getD op.toNat 0) 1 != 0) = useA op ∧ (bits .and .i64 (tbl.getD op.toNat 0) 2 != 0) = useB op ∧ (bits .and .i64 (tbl.getD op.toNat 0) 4 != 0) = useI op := by
  obtain ⟨n, rfl⟩ := Int.eq_ofNat_of_zero_le (show 0 ≤ op by omega)
  have h : n = 1 ∨ n = 2 ∨ n = 3 ∨ n = 4 ∨ n = 5 ∨ n = 6 ∨ n = 7 ∨ n = 8 ∨ n = 9 ∨ n = 10 ∨ n = 11 ∨ n = 12 ∨ n = 13 ∨ n = 14 ∨ n = 15 ∨ n = 16 ∨ n = 17 ∨ n = 18 ∨ n = 19 ∨ n = 20 ∨ n = 21 ∨ n = 22 ∨ n = 23 ∨ n = 24 := by omega
  rcases h with rfl | rfl | rfl | rfl | rfl | rfl | rfl | rfl | rfl | rfl | rfl | rfl | rfl | rfl | rfl | rfl | rfl | rfl | rfl | rfl | rfl | rfl | rfl | rfl <;> decide +kernel

theorem tbl_at (n : Nat) (h : n < 25) : tbl[n]? = some (tbl.getD n 0) := by
  have : n < tbl.length := h
  simp [List.getElem?_eq_getElem this]


abbrev M : Int := 4294967296
/-- what is put into register A (im: the immediate as a word; pc: where the instruction stands) -/
def val (op ra rb im pc : Int) : Int :=
  if op = 1 then im else if op = 2 then im * 65536 % 4294967296 else if op = 3 then rb else if op = 4 then (ra + rb) % 4294967296 else if op = 5 then (ra - rb) % 4294967296
  else if op = 6 then ra * rb % 4294967296 else if op = 7 then (if rb = 0 then 4294967295 else ra / rb) else if op = 8 then bits .and .u32 ra rb else if op = 9 then bits .or .u32 ra rb
  else if op = 10 then bits .xor .u32 ra rb else if op = 11 then ra * 2 ^ (rb % 32).toNat % 4294967296 else if op = 12 then ra / 2 ^ (rb % 32).toNat else if op = 13 then (ra + im) % 4294967296
  else if op = 19 then (pc + 4) % 4294967296 else ra
def sgn (x : Int) : Int := if 2147483648 ≤ x then x - 4294967296 else x
/-- where it goes on -/
def nxt (op ra rb im pc : Int) : Int :=
  if op = 18 ∨ op = 19 ∨ op = 21 ∧ ra = rb ∨ op = 22 ∧ sgn ra < sgn rb ∨ op = 23 ∧ ra < rb then (pc + 4 * im) % 4294967296 else if op = 20 then ra else (pc + 4) % 4294967296
def plain (op : Int) : Bool := !(decide (14 ≤ op ∧ op ≤ 17) || op == 24)
def regs (rs : List Int) (op a x : Int) : List Int := if op = 18 then rs else rs.set a.toNat x
def doesR (rs : List Int) (pc op a b i : Int) : List Int := if may op a b i && plain op then regs rs op a (val op (rs.getD a.toNat 0) (rs.getD b.toNat 0) (i % 4294967296) pc) else rs
def doesP (rs : List Int) (pc op a b i : Int) : Int := if may op a b i && plain op then nxt op (rs.getD a.toNat 0) (rs.getD b.toNat 0) (i % 4294967296) pc else pc
def doesB (op a b i : Int) : Bool := may op a b i && plain op

def cpuV (rs : List Int) (pc : Int) : Value := .agg ((rs ++ [pc]).map (Value.int .u32)).toArray
/-- a register row after a store at k -/
def upd (rs : List Int) (k : Nat) (x : Int) (j : Nat) : Int := (rs.set k x).getD j 0

theorem wrap32_sgn (x : Int) (h0 : 0 ≤ x) (h1 : x < 4294967296) : RowKit.wrap32 x = sgn x := by
  unfold RowKit.wrap32 sgn
  split <;> omega
theorem not0 : bits BinOp.xor IntKind.u32 (if IntKind.u32.signed = true then -1 else IntKind.u32.max) 0 = 4294967295 := by decide +kernel
theorem tup {x y : Value} {b : Bool} (h : x = y) : Value.tuple #[x, .bool b] = .tuple #[y, .bool b] := by rw [h]
theorem cpu_eq {r0 r1 r2 r3 r4 r5 r6 r7 pc x x' p p' : Int} {A : Nat} (hA : A < 8) (hx : x = x') (hp : p = p') :
    Value.agg #[.int .u32 (upd [r0, r1, r2, r3, r4, r5, r6, r7, pc] A x 0), .int .u32 (upd [r0, r1, r2, r3, r4, r5, r6, r7, pc] A x 1), .int .u32 (upd [r0, r1, r2, r3, r4, r5, r6, r7, pc] A x 2),
      .int .u32 (upd [r0, r1, r2, r3, r4, r5, r6, r7, pc] A x 3), .int .u32 (upd [r0, r1, r2, r3, r4, r5, r6, r7, pc] A x 4), .int .u32 (upd [r0, r1, r2, r3, r4, r5, r6, r7, pc] A x 5),
      .int .u32 (upd [r0, r1, r2, r3, r4, r5, r6, r7, pc] A x 6), .int .u32 (upd [r0, r1, r2, r3, r4, r5, r6, r7, pc] A x 7), .int .u32 p] = cpuV ([r0, r1, r2, r3, r4, r5, r6, r7].set A x') p' := by
  subst hx; subst hp
  have h : A = 0 ∨ A = 1 ∨ A = 2 ∨ A = 3 ∨ A = 4 ∨ A = 5 ∨ A = 6 ∨ A = 7 := by omega
  rcases h with rfl | rfl | rfl | rfl | rfl | rfl | rfl | rfl <;> simp [upd, cpuV]
end Go.Proofs.YtllemloicianmaaDoor.Cp
