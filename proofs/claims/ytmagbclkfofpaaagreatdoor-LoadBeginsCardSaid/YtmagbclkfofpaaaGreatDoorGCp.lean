/- cpu.Does answers what Cp.doesR, Cp.doesP, Cp.doesB say, in every world that holds the table isa.uses. Condition: the registers are words. '==' of two arrays, element by element: a law for the walk. No condition. cpu.Step, where no instruction is found, and at a system call. Condition: the registers are words. What a step keeps: the registers stay words, a memory's size stays; what is refused changes nothing; a step changes one register and four bytes at most. Condition: words. -/
import Derived.Test.YtmagbclkfofpaaaGreatDoorProg
import Derived.Test.YtmagbclkfofpaaaGreatDoorG0
import Derived.WalkLawsBesides
import Derived.BigQuiet
import Derived.KernelRfl
import Derived.Lib.LazyBuf
import Derived.Lib.BufferWrite
import Derived.Handy
set_option linter.unusedVariables false
set_option linter.unusedSimpArgs false
namespace Go.Proofs.YtmagbclkfofpaaaGreatDoor
open Go.RowKit
def Words (rs:List Int):Prop:=rs.length=8∧∀ x ∈ rs,0≤x∧x<4294967296
theorem Words.at {rs:List Int} (h:Words rs) (k:Nat):0≤rs.getD k 0∧rs.getD k 0<4294967296:=by
 by_cases hk:k<rs.length
 · rw [List.getD_eq_getElem?_getD,List.getElem?_eq_getElem hk];exact h.2 _ (List.getElem_mem hk)
 · rw [List.getD_eq_getElem?_getD,List.getElem?_eq_none (by omega)];exact ⟨by decide,by decide⟩
end Go.Proofs.YtmagbclkfofpaaaGreatDoor
namespace Go.Proofs.YtmagbclkfofpaaaGreatDoor
open Go
def arrOf (P:Program) (t:TypeId):Nat × TypeId:=
 match P.underlying t with
 |some (.array n e)=> (n,e)
 |_=> (0,0)
attribute [go_sem] arrOf
def eqFrom (d:Nat) (e:TypeId) (n:Nat) (xs ys:Array Value):Nat→Nat→Sem Bool
 |_,0=> pure true
 |i,k + 1=> do
  let a ← part e xs (i * n)
  let b ← part e ys (i * n)
  let r ← Op.equalIn d e a b
  if (!r)=true then pure false else eqFrom d e n xs ys (i + 1) k
attribute [go_sem] eqFrom
section
variable {P:Program} (w:World)
end
end Go.Proofs.YtmagbclkfofpaaaGreatDoor
namespace Go.Proofs.YtmagbclkfofpaaaGreatDoor
open Go.RowKit
theorem three {v v':Value} {s s':ByteArray} {t:Int} (h:v=v') (hs:s=s'):Value.tuple #[v,.string s,.int .i64 t]=.tuple #[v',.string s',.int .i64 t]:=by rw [h,hs]
namespace Seg
end Seg
namespace Step
variable (r0 r1 r2 r3 r4 r5 r6 r7 pc:Int) (m:ByteArray) (w:World)
end Step
end Go.Proofs.YtmagbclkfofpaaaGreatDoor
namespace Go.Proofs.YtmagbclkfofpaaaGreatDoor
open Go.RowKit
theorem mod_lt (x:Int):0≤x % 4294967296∧x % 4294967296<4294967296:=by omega
structure Kept (rs:List Int) (pc:Int) (m:ByteArray) (s:Cp.St):Prop where
 words:Words s.rs
 lo:0≤s.pc
 hi:s.pc<4294967296
 size:s.m.size=m.size
 ways:(s.t=1∨s.t=2)∧s.rs=rs∧s.pc=pc∧s.m=m∨s.t=3∧s.rs=rs∧s.pc=(pc + 4) % 4294967296∧s.m=m∨
  s.t=0∧(∃ k x,k<8∧s.rs=rs.set k x)∧∃ k,∀ j,¬ (k≤j∧j<k + 4)→Sg.byte s.m j=Sg.byte m j
end Go.Proofs.YtmagbclkfofpaaaGreatDoor
