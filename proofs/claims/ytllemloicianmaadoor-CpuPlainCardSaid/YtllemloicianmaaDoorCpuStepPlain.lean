/- What one step of a processor comes to, as a plain function. No condition. -/
import Derived.Test.YtllemloicianmaaDoorCpuPlain
import Derived.Test.YtllemloicianmaaDoorSegPlain
namespace Go.Proofs.YtllemloicianmaaDoor.Cp

def sgn16 (x : Int) : Int := if 32767 < x then x - 65536 else x
/-- the parts of a word -/
def opOf (x : Int) : Int := x / 16777216
def aOf (x : Int) : Int := x / 1048576 % 16
def bOf (x : Int) : Int := x / 65536 % 16
def immOf (x : Int) : Int := sgn16 (x % 65536)
def takeB (x : Int) : Bool := may (opOf x) (aOf x) (bOf x) (immOf x)

structure St where
  rs : List Int
  pc : Int
  m : ByteArray
  t : Int

/-- a step, by the instruction's parts -/
def stepI (rs : List Int) (pc : Int) (m : ByteArray) (op a b i : Int) : St :=
  let at_ := (rs.getD b.toNat 0 + i) % 4294967296
  let v := rs.getD a.toNat 0
  if op = 14 then (if Sg.isWord m at_ then ⟨rs.set a.toNat (Sg.word m at_.toNat), (pc + 4) % 4294967296, m, 0⟩ else ⟨rs, pc, m, 2⟩)
  else if op = 16 then (if Sg.has m at_ 1 then ⟨rs.set a.toNat (Sg.byte m at_.toNat), (pc + 4) % 4294967296, m, 0⟩ else ⟨rs, pc, m, 2⟩)
  else if op = 15 then (if Sg.isWord m at_ then ⟨rs, (pc + 4) % 4294967296, Sg.put m at_.toNat (Sg.bytes4 v), 0⟩ else ⟨rs, pc, m, 2⟩)
  else if op = 17 then (if Sg.has m at_ 1 then ⟨rs, (pc + 4) % 4294967296, Sg.put m at_.toNat [UInt8.ofNat (v % 256).toNat], 0⟩ else ⟨rs, pc, m, 2⟩)
  else if op = 24 then ⟨rs, (pc + 4) % 4294967296, m, 3⟩
  else ⟨doesR rs pc op a b i, doesP rs pc op a b i, m, 0⟩

def step (rs : List Int) (pc : Int) (m : ByteArray) : St :=
  if Sg.isWord m pc then
    (if takeB (Sg.word m pc.toNat) then stepI rs pc m (opOf (Sg.word m pc.toNat)) (aOf (Sg.word m pc.toNat)) (bOf (Sg.word m pc.toNat)) (immOf (Sg.word m pc.toNat)) else ⟨rs, pc, m, 1⟩)
  else ⟨rs, pc, m, 2⟩

/-- some steps: how many were done, the last one's end -/
def run : Nat → List Int → Int → ByteArray → St × Nat
  | 0, rs, pc, m => (⟨rs, pc, m, 0⟩, 0)
  | n + 1, rs, pc, m =>
    let s := step rs pc m
    if s.t = 0 then let r := run n s.rs s.pc s.m; (r.1, r.2 + 1) else (s, 0)
end Go.Proofs.YtllemloicianmaaDoor.Cp
