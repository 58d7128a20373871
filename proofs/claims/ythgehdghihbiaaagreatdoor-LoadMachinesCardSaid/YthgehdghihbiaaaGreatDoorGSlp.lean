/- Package sleep: Until, Drop, Add. Condition: as many as Go can hold. sleep.Due: those that are due, and the others. Condition: as many as Go can hold. -/
import Derived.Test.YthgehdghihbiaaaGreatDoorGRow
import Derived.Test.YthgehdghihbiaaaGreatDoorKClo
set_option linter.unusedVariables false
set_option linter.unusedSimpArgs false
namespace Go.Proofs.YthgehdghihbiaaaGreatDoor
open Go.RowKit KR
namespace Kn
abbrev SlA (W:World) (v:Value) (l:List Alarm):Prop:=Sl 230 2 Alarm.cells W v l
end Kn
end Go.Proofs.YthgehdghihbiaaaGreatDoor
namespace Go.Proofs.YthgehdghihbiaaaGreatDoor
open Go.RowKit KR
namespace KR
variable {α:Type}
theorem Sl.drop {E:TypeId} {sz:Nat} {f:α→Array Value} {W:World} {a a':Option Addr} {n c:Nat} {l:List α} (h:Sl E sz f W (.slice a n c) l) (k:Nat) (hk:k≤n) (ha:∀ b off,a=some ⟨b,off,none⟩→a'=(if c=k then some ⟨b,off,none⟩ else some ⟨b,off + k * sz,none⟩)):Sl E sz f W (.slice a' (n - k) (c - k)) (l.drop k):=by
 obtain ⟨a0,c0,he,h1,h2,h⟩:=h
 injection he with ha0 hn hc
 subst ha0 hn hc
 refine ⟨_,_,by rw [List.length_drop],by rw [List.length_drop];omega,by omega,?_⟩
 by_cases hkn:k=l.length
 · exact .inl (by rw [hkn,List.drop_length])
 · rcases h with rfl|⟨b,off,cur,rfl,hb,hcell⟩
   · exact .inl (by simp)
   · refine .inr ⟨b,off + k * sz,cur,by rw [ha b off rfl,if_neg (by omega)],hb,fun i x hx j u hj=> ?_⟩
     rw [List.getElem?_drop] at hx
     have:=hcell _ x hx j u hj
     rw [Nat.add_mul] at this
     rwa [Nat.add_assoc off]
theorem Sl.empty {E:TypeId} {sz:Nat} {f:α→Array Value} {W:World} {a:Option Addr} {c:Nat} (h:c≤9223372036854775807):Sl E sz f W (.slice a 0 c) []:=⟨a,c,rfl,Nat.zero_le _,h,.inl rfl⟩
theorem Sl.take {E:TypeId} {sz:Nat} {f:α→Array Value} {W:World} {a:Option Addr} {n c:Nat} {l:List α} (h:Sl E sz f W (.slice a n c) l) (k:Nat) (hk:k≤n):Sl E sz f W (.slice a k c) (l.take k):=by
 obtain ⟨a0,c0,he,h1,h2,h⟩:=h
 injection he with ha0 hn hc
 subst ha0 hn hc
 refine ⟨_,_,by rw [List.length_take,Nat.min_eq_left hk],by rw [List.length_take];omega,by omega,?_⟩
 rcases h with rfl|⟨b,off,cur,rfl,hb,hcell⟩
 · exact .inl (by simp)
 · refine .inr ⟨b,off,cur,rfl,hb,fun i x hx j u hj=> ?_⟩
   rw [List.getElem?_take] at hx
   split at hx
   · exact hcell _ x hx j u hj
   · cases hx
end KR
namespace Kn
abbrev SlI (W:World) (v:Value) (l:List Int):Prop:=Sl 3 1 intCells W v l
abbrev OwnI (B:Nat) (W:World) (v:Value) (l:List Int):Prop:=Own 3 1 intCells B W v l
end Kn
end Go.Proofs.YthgehdghihbiaaaGreatDoor
