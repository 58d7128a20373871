/- A plan that was taken and images that were unpacked, as a machine's beginning reads them. No condition. -/
import Derived.Test.YthgehdghihbiaaaGreatDoorHyBeg
import Derived.Test.YthgehdghihbiaaaGreatDoorGPlT
import Derived.Test.YthgehdghihbiaaaGreatDoorGLdE
set_option linter.unusedVariables false
set_option linter.unusedSimpArgs false
namespace Go.Proofs.YthgehdghihbiaaaGreatDoor
open Go.RowKit KR Kn
namespace Hy
theorem rd_of_rows {β:Type} {sz:Nat} {W:World} {v:Value} {l:List (List Int)} {f:β→Array Value} {k:List Int→β} (h:RowsAt W sz v l) (hc:Tk.CapV v) (hk:∀ r j u,(f (k r))[j]? =some u→j<sz∧u=.int .i64 (Pl.g r j)):Rd sz f W v (l.map k):=by
 obtain ⟨a,c,rfl,h1,h⟩:=h
 obtain ⟨a',n',c',he,h2,h3⟩:=hc
 injection he with ha hn hc
 subst ha hn hc
 refine ⟨_,_,by rw [List.length_map],by rw [List.length_map];exact h2,h3,?_⟩
 rcases h with rfl|⟨b,off,rfl,hb,hcell⟩
 · exact .inl rfl
 · refine .inr ⟨b,off,rfl,hb,fun i x hx j u hj=> ?_⟩
   rw [List.getElem?_map] at hx
   obtain ⟨r,hr,rfl⟩:=Option.map_eq_some_iff.1 hx
   obtain ⟨hjs,rfl⟩:=hk r j u hj
   have hi:=(List.getElem?_eq_some_iff.1 hr).1
   have:=hcell i j hi hjs
   rw [List.getD_eq_getElem?_getD,hr] at this
   exact this
theorem planR_of {W:World} {v:Value} {P:Pl.Plan} (h:Tk.PlanC W v P):∃ vp vw vc,v=.agg (pcells vp vw vc P.fr)∧∀ W',Tk.Stay W W'→PlanR W' vp vw vc P:=by
 obtain ⟨h1,vp,vw,vc,rfl,hp,hc⟩:=h
 refine ⟨vp,vw,vc,rfl,fun W' hs=> ?_⟩
 replace h1:=h1 W' hs
 clear hs
 obtain ⟨vp',vw',vc',he,h2,h3,h4⟩:=id h1
 injection he with he
 simp only [Array.mk.injEq,List.cons.injEq,and_true,true_and] at he
 obtain ⟨rfl,rfl,rfl⟩:=he
 refine ⟨h1,rd_of_rows (k:=chanOf) h4 hc fun r j u hj=> ?_,rd_of_rows (k:=partOf) h2 hp fun r j u hj=> ?_⟩
 · match j,hj with
   |0,hj=> exact ⟨by decide,(Option.some.inj hj).symm⟩
   |1,hj=> exact ⟨by decide,(Option.some.inj hj).symm⟩
   |2,hj=> exact ⟨by decide,(Option.some.inj hj).symm⟩
   |3,hj=> exact ⟨by decide,(Option.some.inj hj).symm⟩
   |4,hj=> exact ⟨by decide,(Option.some.inj hj).symm⟩
   |n + 5,hj=> simp [Chan.cells] at hj
 · match j,hj with
   |0,hj=> exact ⟨by decide,(Option.some.inj hj).symm⟩
   |1,hj=> exact ⟨by decide,(Option.some.inj hj).symm⟩
   |2,hj=> exact ⟨by decide,(Option.some.inj hj).symm⟩
   |3,hj=> exact ⟨by decide,(Option.some.inj hj).symm⟩
   |n + 4,hj=> simp [Part.cells] at hj
theorem strs_rd {W:World} {v:Value} {l:List ByteArray} (h:StrsAt W v l):Rd 1 strCells W v l:=by
 obtain ⟨a,c,rfl,⟨h1,h2⟩,_,h⟩:=h
 refine ⟨a,c,rfl,h1,h2,?_⟩
 rcases h with h|⟨b,off,rfl,hb,hc⟩
 · exact .inl h
 · refine .inr ⟨b,off,rfl,hb,fun i x hx j u hj=> ?_⟩
   have hi:=(List.getElem?_eq_some_iff.1 hx).1
   match j,hj with
   |0,hj=>
    obtain rfl:Value.string x=u:=Option.some.inj hj
    have:=hc i hi
    rw [List.getD_eq_getElem?_getD,hx] at this
    rw [Nat.mul_one,Nat.add_zero]
    exact this
   |j + 1,hj=> simp [strCells] at hj
theorem imgAt_of {W:World} {v:Value} {l:List (List ByteArray)} (h:ImgsAt W v l):ImgAt W v l:=by
 obtain ⟨a,c,rfl,⟨h1,h2⟩,h⟩:=h
 refine ⟨a,c,rfl,h1,h2,?_⟩
 rcases h with h|⟨b,off,rfl,hb,hc⟩
 · exact .inl h
 · refine .inr ⟨b,off,rfl,hb,fun i r hr=> ?_⟩
   have hi:=(List.getElem?_eq_some_iff.1 hr).1
   obtain ⟨u,hu,hs⟩:=hc i hi
   rw [List.getD_eq_getElem?_getD,hr] at hs
   exact ⟨u,hu,strs_rd hs⟩
theorem take_check {s:List UInt8} {P:Pl.Plan} (h:Pl.take s=.ok P):Pl.check P=0:=by
 unfold Pl.take at h
 split at h
 · unfold Pl.bnd at h
   split at h
   · cases h
   · dsimp only at h
     split at h
     · next h0=> injection h with h;rw [← h];exact h0
     · cases h
 · cases h
theorem rows_few {s:List UInt8} {l:List (List ByteArray)} (h:Ld.unpack s=.ok (Ld.of l)):∀ r ∈ l,r.length≤8796093022207:=by
 intro r hr
 have h1:=(Ld.unpack_ok h).1
 simp only [Ld.fits,Bool.and_eq_true,List.all_eq_true,decide_eq_true_eq] at h1
 have h2:=(h1.2 (Ld.row r) (List.mem_map.2 ⟨r,hr,rfl⟩)).1
 rw [Ld.row,List.length_map] at h2
 omega
end Hy
end Go.Proofs.YthgehdghihbiaaaGreatDoor
