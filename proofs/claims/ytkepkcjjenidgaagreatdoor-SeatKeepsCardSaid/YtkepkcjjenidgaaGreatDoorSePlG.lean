/- What a seat tells stays told, in plain Lean. No condition. -/
import Derived.Test.YtkepkcjjenidgaaGreatDoorGSe0
set_option linter.unusedVariables false
set_option linter.unusedSimpArgs false
namespace Go.Proofs.YtkepkcjjenidgaaGreatDoor
namespace Kn
structure SGrows (s s':Seat):Prop where
 tr:∃ l,s'.k.trace=s.k.trace ++ l
 co:∃ c,s'.k.cons=s.k.cons ++ c
 nw:s.k.now≤s'.k.now
 bo:s.boots≤s'.boots
theorem SGrows.refl (s:Seat):SGrows s s:=⟨⟨[],(List.append_nil _).symm⟩,⟨⟨#[]⟩,(ba_app_empty _).symm⟩,Int.le_refl _,Int.le_refl _⟩
theorem SGrows.trans {a b c:Seat} (h:SGrows a b) (g:SGrows b c):SGrows a c:=by
 obtain ⟨⟨l,h1⟩,⟨u,h2⟩,h3,h4⟩:=h
 obtain ⟨⟨m,g1⟩,⟨v,g2⟩,g3,g4⟩:=g
 exact ⟨⟨l ++ m,by rw [g1,h1,List.append_assoc]⟩,⟨u ++ v,by rw [g2,h2,ba_app_assoc]⟩,Int.le_trans h3 g3,Int.le_trans h4 g4⟩
theorem slooks_grows (x:Part) (s:Seat):SGrows s (slooks x s):=by
 unfold slooks
 split
 · exact .refl s
 · split
   · exact ⟨⟨[],(List.append_nil _).symm⟩,⟨⟨#[]⟩,(ba_app_empty _).symm⟩,Int.le_refl _,Int.le_refl _⟩
   · split
     · exact ⟨⟨[],(List.append_nil _).symm⟩,⟨⟨#[]⟩,(ba_app_empty _).symm⟩,by show _≤(reset x.mem s.k).now;rw [reset_now];exact Int.le_refl _,by show s.boots≤s.boots + 1;omega⟩
     · exact .refl s
theorem scycle_grows {n:Nat} {x:Part} {s:Seat} (h:SGood n s) (hb:n≤1000000):SGrows s (scycle x s):=by
 unfold scycle
 split
 · refine SGrows.trans ?_ (slooks_grows x _)
   obtain ⟨l,c,h1,_,h2,_⟩:=h.k.tells
   exact ⟨⟨l,h1⟩,⟨c,h2⟩,by show _≤(step s.k).now;rw [step_nw h.k h.nw hb];omega,Int.le_refl _⟩
 · exact .refl s
theorem scycles_grows {x:Part} (hx:PartOk x) {n:Nat} {s:Seat} (h:SGood n s):∀ m:Nat,n + m≤1000000→SGrows s (scycles x m s)
 |0,_=> .refl s
 |m + 1,hm=> by
  rw [scycles_succ]
  exact (scycles_grows hx h m (by omega)).trans (scycle_grows (h.cycles hx m (by omega)) (by omega))
theorem swindow_grows (s:Seat):SGrows s (swindow s):=by
 unfold swindow
 split
 · exact ⟨⟨[],(List.append_nil _).symm⟩,⟨⟨#[]⟩,(ba_app_empty _).symm⟩,Int.le_refl _,Int.le_refl _⟩
 · exact .refl s
theorem sarrive_grows (s:Seat) (j:Int) (body:ByteArray):SGrows s (sarrive s j body):=by
 obtain ⟨_,h1,h2⟩:=arrive_rows s.k j body s.k.now
 exact ⟨⟨[],by show (arrive s.k j body s.k.now).trace=_;rw [h1,List.append_nil]⟩,⟨⟨#[]⟩,by show (arrive s.k j body s.k.now).cons=_;rw [h2,ba_app_empty]⟩,by show _≤(arrive s.k j body s.k.now).now;rw [arrive_now];exact Int.le_refl _,Int.le_refl _⟩
theorem sdeed_grows {n:Nat} {x:Part} {s:Seat} (h:SGood n s) (hx:PartOk x) (a:SDeed) (hb:n + 60≤1000000):SGrows s (sdeed x s a):=by
 unfold sdeed
 split
 · exact sarrive_grows s _ _
 · split
   · exact swindow_grows s
   · split
     · have hs:(steps a.n).toNat≤60:=by unfold steps;split <;> omega
       exact scycles_grows hx h _ (by omega)
     · exact .refl s
theorem splays_more {g:SGuest} (hg:SGuestOk g) {l:List SDeed} (hl:SmallSDeeds l) (a:SDeed) (h30:l.length<30):SGrows (splays g l) (splays g (l ++ [a])):=by
 have h1:splays g (l ++ [a])=sdeed g.x (splays g l) a:=by
  unfold splays
  rw [List.take_of_length_le (by rw [List.length_append];exact h30),List.take_of_length_le (by omega),List.foldl_append]
  rfl
 rw [h1]
 exact sdeed_grows (splays_good hg hl) hg.x a (by decide)
end Kn
end Go.Proofs.YtkepkcjjenidgaaGreatDoor
