/- A plan's bytes in plain Lean: its numbers one behind the other, two bytes each; what has the same bytes is the same. Conditions: as told. -/
import Derived.Test.YtfncknignkndiaaGreatDoorGPl
set_option linter.unusedVariables false
set_option linter.unusedSimpArgs false
namespace Go.Proofs.YtfncknignkndiaaGreatDoor.Pl
def r3 (r:List Int):List Int:=[g r 0,g r 1,g r 2]
def r4 (r:List Int):List Int:=[g r 0,g r 1,g r 2,g r 3]
def r5 (r:List Int):List Int:=[g r 0,g r 1,g r 2,g r 3,g r 4]
def b2 (n:Int):List UInt8:=[UInt8.ofNat (n / 256).toNat,UInt8.ofNat (n % 256).toNat]
def enc (l:List Int):List UInt8:=84::80::l.flatMap b2
def win (l:List (List Int)):List Int:=(l.length:Int)::l.flatMap r3
theorem dX {f:List Int→List Int} {n:Nat} (hf:∀ r,(f r).length=n) (l:List (List Int)):(l.flatMap f).length=n * l.length:=by
 induction l with
 |nil=> simp
 |cons x l ih=> rw [List.flatMap_cons,List.length_append,ih,hf,List.length_cons];rw [Nat.mul_add];omega
theorem part_facts {r:List Int} (h:nH r=true):64≤g r 0∧g r 0≤1024∧1≤g r 1∧g r 1≤3∧1≤g r 2∧g r 2≤3∧1≤g r 3∧g r 3≤3:=by
 simp only [nH,odd3,odd,Bool.and_eq_true,decide_eq_true_eq,Bool.not_eq_true',Bool.or_eq_false_iff,decide_eq_false_iff_not] at h;omega
def small (l:List Int):Prop:=∀ x ∈ l,0≤x∧x<65536
