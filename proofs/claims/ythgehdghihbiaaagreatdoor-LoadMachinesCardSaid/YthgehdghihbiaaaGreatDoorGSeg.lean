/- A string's bytes laid into a row, another string copied over them, the row read back as a string: laws on worlds. No condition on programs but for the types. seg.Out, seg.In, seg.Make answer what the plain functions Sg say. Conditions: a place is a word, a memory is no longer than a string can be. work.image: an image's memory. Conditions: a word's number; not more images than Go can hold. -/
import Derived.Lib.LazyBuf
import Derived.Lib.BufferWrite
import Derived.Test.YthgehdghihbiaaaGreatDoorProg
import Derived.Test.YthgehdghihbiaaaGreatDoorKShelf
import Derived.Handy
import Derived.Test.YthgehdghihbiaaaGreatDoorGWork
set_option linter.unusedVariables false
set_option maxRecDepth 100000
set_option maxHeartbeats 8000000
set_option linter.unusedSimpArgs false
namespace Go.Proofs.YthgehdghihbiaaaGreatDoor.Sg
open Go.RowKit
section
variable {P:Program}
theorem row_cell (w:World) (m:ByteArray) (cap:Nat) (t:TypeId) (fr:Nat × Nat) (j:Nat) (hj:j<m.size):(w.alloc (.cells (bytesRow m cap) t fr)).drew.cell? ⟨w.heap.size,j,none⟩=some (.int .u8 (byte m j)):=by
 show (w.alloc (.cells (bytesRow m cap) t fr)).cell? ⟨w.heap.size,j,none⟩=_
 rw [World.cell?_alloc_mark,bytesRow_at m cap j hj,← byte_eq hj]
 rfl
end
end Go.Proofs.YthgehdghihbiaaaGreatDoor.Sg
namespace Go.Proofs.YthgehdghihbiaaaGreatDoor
open Go.RowKit
namespace SegK
end SegK
theorem repeat0:∀ c,Lib.repeatL [0] c=List.replicate c (0:UInt8)
 |0=> rfl
 |c + 1=> by
  show [0] ++ Lib.repeatL [0] c=_
  rw [repeat0 c]
  rfl
namespace Seg
def zeros (c:Int):ByteArray:=⟨(List.replicate c.toNat 0).toArray⟩
theorem zeros_size (c:Int):(zeros c).size=c.toNat:=by
 show (List.toArray _).size=_
 rw [List.size_toArray,List.length_replicate]
theorem cat_zeros (s:ByteArray) (c:Int):s ++ zeros c=⟨(s.data.toList ++ List.replicate c.toNat 0).toArray⟩:=ByteArray.mk_append_mk s.data.toList _
theorem Repeat_at (c:Int) (w:World) (h0:0≤c) (h1:c≤1024):
 Calls Tryz.prog 113 #[.string ⟨#[0]⟩,.int .i64 c] w (Gives (.string (zeros c)) w):=by
 obtain ⟨n,rfl⟩:=Int.eq_ofNat_of_zero_le h0
 have h:=Tryz.strings_Repeat ⟨#[0]⟩ n w (by omega) (by show 1 * n≤_;omega)
 rw [show (⟨#[0]⟩:ByteArray).data.toList=[0] from rfl,repeat0] at h
 exact h
theorem Make_yes (n:Int) (s:ByteArray) (w:World) (h0:0≤n) (h1:n≤1024) (h2:s.size≤n):
 Calls Tryz.prog 101 #[.int .i64 n,.string s] w (Gives (.tuple #[.string ⟨(s.data.toList ++ List.replicate (n - s.size).toNat 0).toArray⟩,.int .i64 0]) w):=by
 have hz:=zeros_size (n - s.size)
 go_enter Tryz.func101,Tryz.ntmps101
 go_wp2_with (go_at_call 113;refine (Repeat_at _ _ (by omega) (by omega)).mono ?_;rintro e w1 ⟨rfl,hb1⟩)
 go_ret2
 exact gives_of (two_str (cat_zeros s (n - s.size)) rfl) bel
theorem Make (n:Int) (s:ByteArray) (w:World):
 Calls Tryz.prog 101 #[.int .i64 n,.string s] w (Gives (.tuple #[.string (Sg.makeM n s),.int .i64 (Sg.makeE n s)]) w):=by
 unfold Sg.makeM Sg.makeE
 by_cases h:n<0∨1024<n
 · rw [if_neg (by omega),if_pos h]
   go_enter Tryz.func101,Tryz.ntmps101
   go_wp2_with fail
   all_goals go_ret2
   all_goals exact ⟨rfl,bel⟩
 · rw [if_neg h]
   by_cases h2:n<s.size
   · rw [if_neg (by omega),if_pos h2]
     have h3:0≤n:=by omega
     have h4:n≤1024:=by omega
     go_enter Tryz.func101,Tryz.ntmps101
     go_wp2_with fail
     all_goals go_ret2
     all_goals exact ⟨rfl,bel⟩
   · rw [if_pos (by omega),if_neg h2]
     exact Make_yes n s w (by omega) (by omega) (by omega)
end Seg
end Go.Proofs.YthgehdghihbiaaaGreatDoor
namespace Go.Proofs.YthgehdghihbiaaaGreatDoor
open Go.RowKit KR
namespace Kn
theorem WImage (b:Nat) (k:Kern) (n:Int) (w:World) (hk:WorkAt w b k) (n0:0≤n) (n1:n<4294967296) (hi:k.images.length≤8796093022207):
 Calls Tryz.prog 91 #[.pointer (some ⟨b,0,none⟩),.int .u32 n] w (Gives (.tuple #[.string (imageM k n),.int .i64 (imageE k n)]) w):=by
 obtain ⟨y,bs,hk0,hl⟩:=hk
 obtain ⟨ia,ic,him,hic,hcm⟩:=hl.im.shape
 have HS:=hU hl.im
 rw [him] at HS
 have kim:w.cell? ⟨b,8,none⟩=some (.slice ia k.images.length ic):=(show w.cell? ⟨b,8,none⟩=some y.im from hcell hk0 8).trans (congrArg some him)
 obtain ⟨m,rfl⟩:=Int.eq_ofNat_of_zero_le n0
 clear hk0 hl him
 by_cases hlt':m<k.images.length
 · obtain ⟨s,hs⟩:∃ s,k.images[m]? =some s:=⟨_,List.getElem?_eq_getElem hlt'⟩
   have hw1:(m:Int) % 18446744073709551616=(m:Int):=by omega
   have hw2:(k.images.length:Int) % 18446744073709551616=(k.images.length:Int):=by omega
   have hltI:(m:Int)<(k.images.length:Int):=by omega
   have hM:imageM k m=Sg.makeM 64 s:=by rw [imageM,Int.toNat_natCast,hs]
   have hE:imageE k m=Sg.makeE 64 s:=by rw [imageE,Int.toNat_natCast,hs]
   obtain ⟨hnl,_,_,hel⟩:=HS.out.elem
   clear hnl
   obtain ⟨ib,off,rfl,hbl,hcell'⟩:=hel m s hs
   have c0:w.cell? ⟨ib,off + m,none⟩=some (.string s):=by
    have h:=hcell' w (Below.refl _ _) 0 (.string s) rfl
    simpa using h
   have HMK:=hU (Seg.Make 64 s w)
   clear hel hcell'
   rw [hM,hE]
   have hd:decide (k.images.length≤m)=false:=by simp;omega
   clear hM hE HS hltI hs
   go_enter Tryz.func91,Tryz.ntmps91
   repeat' (first|(go_at_call 101;refine HMK.out.mono ?_;rintro e w1 ⟨rfl,hb⟩;dsimp only)|go_values|go_skip|go_guarded|(with_reducible refine wg ?_)|go_step|go_upon)
   go_ret2
   exact ⟨rfl,hb⟩
 · have hltI:¬ (m:Int)<(k.images.length:Int):=by omega
   have hn:k.images[m]? =none:=List.getElem?_eq_none (by omega)
   have hM:imageM k m=⟨#[]⟩:=by rw [imageM,Int.toNat_natCast,hn]
   have hE:imageE k m=7:=by rw [imageE,Int.toNat_natCast,hn]
   rw [hM,hE]
   have hd:decide (k.images.length≤m)=true:=by simp;omega
   clear hM hE hn HS hltI
   go_enter Tryz.func91,Tryz.ntmps91
   repeat' (first|go_values|go_skip|go_guarded|(with_reducible refine wg ?_)|go_step|go_upon)
   go_ret2
   exact ⟨rfl,Below.refl _ _⟩
end Kn
end Go.Proofs.YthgehdghihbiaaaGreatDoor
