/- A string's bytes laid into a row, another string copied over them, the row read back as a string: laws on worlds. Conditions: as told. -/
import Derived.Lib.LazyBuf
import Derived.Lib.BufferWrite
import Derived.Test.YtfncknignkndiaaGreatDoorProg
import Derived.Handy
import Derived.Test.YtfncknignkndiaaGreatDoorKShelf
import Derived.Test.YtfncknignkndiaaGreatDoorGWork
set_option linter.unusedVariables false
set_option maxRecDepth 100000
set_option maxHeartbeats 8000000
set_option linter.unusedSimpArgs false
namespace Go.Proofs.YtfncknignkndiaaGreatDoor.Sg
open Go.RowKit
section
variable {P:Program}
theorem qPz (w:World) (m:ByteArray) (cap:Nat) (t:TypeId) (fr:Nat × Nat) (j:Nat) (hj:j<m.size):(w.alloc (.cells (bytesRow m cap) t fr)).drew.cell? ⟨w.heap.size,j,none⟩=some (.int .u8 (byte m j)):=by
 show (w.alloc (.cells (bytesRow m cap) t fr)).cell? ⟨w.heap.size,j,none⟩=_
 rw [World.cell?_alloc_mark,bytesRow_at m cap j hj,← sB hj];rfl
theorem qQa (w:World) (m:ByteArray) (cap:Nat) (t:TypeId) (j:Nat) (hj:j<m.size):
 (w.alloc (.cells (bytesRow m cap) t ((bytesRow m cap).size,(bytesRow m cap).size + 1))).drew.frozen? ⟨w.heap.size,j,none⟩=false:=by
 show (w.alloc (.cells (bytesRow m cap) t ((bytesRow m cap).size,(bytesRow m cap).size + 1))).frozen? ⟨w.heap.size,j,none⟩=false
 have hs:m.size≤(bytesRow m cap).size:=by
  have e:m.data.size=m.size:=rfl;simp only [bytesRow,Array.size_append,Array.size_map,Array.size_replicate];omega
 rw [World.frozen?_alloc_mark];simp;omega
theorem qFm (W:World) (src dst e:TypeId) (hs:P.underlying src=some (.slice e)) (he:P.underlying e=some (.int .u8)) (hd:P.underlying dst=some .string)
 (b cap:Nat) (m s:ByteArray) (k:Nat) (hrow:∀ j,j<m.size→W.cell? ⟨b,j,none⟩=some (.int .u8 (byte m j))) (hf:k + s.size≤m.size):
 (convert src dst (.slice (some ⟨b,0,none⟩) m.size cap)).run P (W.setCells b k (s.data.toList.map fun x=> Value.int .u8 (x.toNat:Int)))=
   .ok (.string (put m k s.data.toList)) (W.setCells b k (s.data.toList.map fun x=> Value.int .u8 (x.toNat:Int))):=by
 have el:s.data.toList.length=s.size:=Array.length_toList;have hsz:(put m k s.data.toList).size=m.size:=qAy (by omega);have hl:(put m k s.data.toList).data.toList.length=m.size:=by rw [Array.length_toList];exact hsz
 have h:=run_convert_bytes_back (P:=P) (W.setCells b k (s.data.toList.map fun x=> Value.int .u8 (x.toNat:Int))) src dst e ⟨b,0,none⟩ cap (put m k s.data.toList).data.toList hs he hd ?_
 · rw [hl] at h;exact h
 · intro j hj;have hj':j<m.size:=by omega
   have hv:((put m k s.data.toList).data.toList[j].toNat:Int)=byte (put m k s.data.toList) j:=by
    unfold byte;rw [List.getD_eq_getElem?_getD,List.getElem?_eq_getElem hj];rfl
   have ha:(⟨b,0,none⟩:Addr).add j=⟨b,j,none⟩:=by unfold Addr.add;split <;> simp_all
   rw [hv,ha];by_cases hin:k≤j∧j<k + s.size
   · obtain ⟨i,rfl⟩:∃ i,j=k + i:=⟨j - k,by omega⟩
     rw [World.cell?_setCells_in b _ k W (fun i hi=> by
      rw [List.length_map] at hi;rw [hrow _ (by omega)];rfl) i (by rw [List.length_map];omega)]
     rw [qFn (by omega) (by omega) (by omega),List.getElem_map,show k + i - k=i by omega,List.getD_eq_getElem?_getD,List.getElem?_eq_getElem (by omega)];rfl
   · rw [World.cell?_setCells_out b _ k W ⟨b,j,none⟩ (fun _ _=> by rw [List.length_map];show j<k∨k + _≤j;omega),hrow j hj',tW (by omega) (by omega)]
theorem qLb (W:World) (src dst e:TypeId) (hs:P.underlying src=some (.slice e)) (he:P.underlying e=some (.int .u8)) (hd:P.underlying dst=some .string)
 (b cap:Nat) (m:ByteArray) (hrow:∀ j,j<m.size→W.cell? ⟨b,j,none⟩=some (.int .u8 (byte m j))):
 (convert src dst (.slice (some ⟨b,0,none⟩) m.size cap)).run P W=.ok (.string m) W:=by
 have h:=qFm (P:=P) W src dst e hs he hd b cap m ⟨#[]⟩ 0 hrow (by show 0 + 0≤_;omega)
 have e0:put m 0 (⟨#[]⟩:ByteArray).data.toList=m:=by
  unfold put;rcases m with ⟨l⟩
  simp
 rw [e0] at h;exact h
theorem qZg (w:World) (src dst e T:TypeId) (cap:Nat) (hs:P.underlying src=some (.slice e)) (he:P.underlying e=some (.int .u8)) (hd:P.underlying dst=some .string) (v:Int) (v0:0≤v) (v1:v<4294967296):
 (convert src dst (.slice (some ⟨w.heap.size,0,none⟩) 4 cap)).run P (w.alloc (.cells #[.int .u8 (v % 256),.int .u8 (v / 256 % 256),.int .u8 (v / 65536 % 256),.int .u8 (v / 16777216)] T))=
   .ok (.string ⟨(qF v).toArray⟩) (w.alloc (.cells #[.int .u8 (v % 256),.int .u8 (v / 256 % 256),.int .u8 (v / 65536 % 256),.int .u8 (v / 16777216)] T)):=by
 refine run_convert_bytes_back (P:=P) _ src dst e ⟨w.heap.size,0,none⟩ cap (qF v) hs he hd fun j hj=> ?_;have hj4:j<4:=hj;have ha:(⟨w.heap.size,0,none⟩:Addr).add j=⟨w.heap.size,j,none⟩:=by unfold Addr.add;split <;> simp_all
 rw [ha,World.cell?_alloc_mark];have e0:=ofNat_toNat (v % 256) (by omega) (by omega);have e1:=ofNat_toNat (v / 256 % 256) (by omega) (by omega);have e2:=ofNat_toNat (v / 65536 % 256) (by omega) (by omega);have e3:=ofNat_toNat (v / 16777216) (by omega) (by omega);have h:j=0∨j=1∨j=2∨j=3:=by omega
 rcases h with rfl|rfl|rfl|rfl
 · show _=some (Value.int .u8 ((UInt8.ofNat (v % 256).toNat).toNat:Int));rw [e0];rfl
 · show _=some (Value.int .u8 ((UInt8.ofNat (v / 256 % 256).toNat).toNat:Int));rw [e1];rfl
 · show _=some (Value.int .u8 ((UInt8.ofNat (v / 65536 % 256).toNat).toNat:Int));rw [e2];rfl
 · show _=some (Value.int .u8 ((UInt8.ofNat (v / 16777216).toNat).toNat:Int));rw [e3];rfl
theorem qZf (w:World) (src dst e T:TypeId) (cap:Nat) (hs:P.underlying src=some (.slice e)) (he:P.underlying e=some (.int .u8)) (hd:P.underlying dst=some .string) (v:Int) (v0:0≤v) (v1:v<256):
 (convert src dst (.slice (some ⟨w.heap.size,0,none⟩) 1 cap)).run P (w.alloc (.cells #[.int .u8 v] T))=.ok (.string ⟨#[UInt8.ofNat v.toNat]⟩) (w.alloc (.cells #[.int .u8 v] T)):=by
 refine run_convert_bytes_back (P:=P) _ src dst e ⟨w.heap.size,0,none⟩ cap [UInt8.ofNat v.toNat] hs he hd fun j hj=> ?_;have hj1:j<1:=hj;have ha:(⟨w.heap.size,0,none⟩:Addr).add j=⟨w.heap.size,j,none⟩:=by unfold Addr.add;split <;> simp_all
 rw [ha,World.cell?_alloc_mark];obtain rfl:j=0:=by omega
 show _=some (Value.int .u8 ((UInt8.ofNat v.toNat).toNat:Int))
 rw [ofNat_toNat v v0 v1];rfl
theorem qGo (m:ByteArray) (k:Nat) {s:ByteArray} (h:s.size=0):put m k s.data.toList=m:=by
 have e:s.data.toList=[]:=List.eq_nil_of_length_eq_zero (by rw [Array.length_toList];exact h);rw [e];unfold put;rcases m with ⟨l⟩
 simp
end
end Go.Proofs.YtfncknignkndiaaGreatDoor.Sg
namespace Go.Proofs.YtfncknignkndiaaGreatDoor
open Tryz
open Go.RowKit
namespace Seg
theorem has (m:ByteArray) (a n:Int) (w:World) (hm:m.size≤140737488355328) (h0:0≤a) (h1:a<4294967296) (h2:0≤n) (h3:n<4611686018427387904):
 Calls prog 184 #[.string m,.int .u32 a,.int .u64 n] w (Is (.bool (Sg.has m a n)) w):=by
 go_in;go_wp2
 go_ret;refine zT ?_;rfl
theorem word (m:ByteArray) (a:Int) (w:World) (hm:m.size≤140737488355328) (h0:0≤a) (h1:a<4294967296):
 Calls prog 182 #[.string m,.int .u32 a] w (Is (.bool (Sg.isWord m a)) w):=by
 go_in;go_wp2_with (go_at_call 184;refine (has m a 4 _ hm h0 h1 (by omega) (by omega)).mono ?_;rintro e w' ⟨rfl,rfl⟩)
 all_goals go_ret
 all_goals refine zT ?_
 all_goals (unfold Sg.isWord;first|(simp_all;done)|grind)
theorem qDo (m:ByteArray) (a:Int) (w:World) (hm:m.size≤140737488355328) (h0:0≤a) (h1:a<4294967296) (hw:Sg.isWord m a=false):
 Calls prog 128 #[.string m,.int .u32 a] w (Is (.tuple #[.int .u32 0,.int .i64 10]) w):=by
 go_in;go_wp2_with (go_at_call 182;refine (word m a _ hm h0 h1).mono ?_;rintro e w' ⟨rfl,rfl⟩)
 all_goals go_ret2
 all_goals exact ⟨rfl,rfl⟩
theorem qNk (m:ByteArray) (k:Nat) (w:World) (hm:m.size≤140737488355328) (h1:k<4294967296) (hw:Sg.isWord m k=true) (hf:k + 4≤m.size):
 Calls prog 128 #[.string m,.int .u32 k] w (Is (.tuple #[.int .u32 (Sg.word m k),.int .i64 0]) w):=by
 have l0:k<m.size:=by omega
 have l1:k + 1<m.size:=by omega
 have l2:k + 2<m.size:=by omega
 have l3:k + 3<m.size:=by omega
 go_in;go_wp2_with (go_at_call 182;refine (word m k _ hm (by omega) (by omega)).mono ?_;rintro e w' ⟨rfl,rfl⟩)
 refine wp_loop_rounds 5 ?_;repeat any_goals (rw [rounds_succ];go_wp2_with fail)
 all_goals go_ret2
 all_goals refine qUk (qKq ?_ rfl)
 all_goals (unfold Sg.word;rw [← Sg.sB l0,← Sg.sB l1,← Sg.sB l2,← Sg.sB l3])
 all_goals exact Sg.qTb (by omega) (by have:=m[k].toNat_lt;omega) (by omega) (by have:=m[k + 1].toNat_lt;omega) (by omega) (by have:=m[k + 2].toNat_lt;omega) (by omega) (by have:=m[k + 3].toNat_lt;omega)
theorem Load (m:ByteArray) (a:Int) (w:World) (hm:m.size≤140737488355328) (h0:0≤a) (h1:a<4294967296):
 Calls prog 128 #[.string m,.int .u32 a] w (Is (.tuple #[.int .u32 (Sg.qPk m a),.int .i64 (Sg.qCu m a)]) w):=by
 unfold Sg.qPk Sg.qCu;by_cases hw:Sg.isWord m a=true
 · rw [if_pos hw,if_pos hw];obtain ⟨k,rfl⟩:=Int.eq_ofNat_of_zero_le h0
   have hf:k + 4≤m.size:=by
    simp only [Sg.isWord,Sg.has,Bool.and_eq_true,decide_eq_true_eq] at hw;omega
   exact qNk m k w hm (by omega) hw hf
 · rw [if_neg hw,if_neg hw];exact qDo m a w hm h0 h1 (by simpa using hw)
theorem Byte (m:ByteArray) (a:Int) (w:World) (hm:m.size≤140737488355328) (h0:0≤a) (h1:a<4294967296):
 Calls prog 130 #[.string m,.int .u32 a] w (Is (.tuple #[.int .u32 (Sg.qJl m a),.int .i64 (Sg.xU m a)]) w):=by
 unfold Sg.qJl Sg.xU;by_cases hw:Sg.has m a 1=true
 · rw [if_pos hw,if_pos hw];obtain ⟨k,rfl⟩:=Int.eq_ofNat_of_zero_le h0
   have hf:k<m.size:=by
    simp only [Sg.has,decide_eq_true_eq] at hw;omega
   go_in;go_wp2_with (go_at_call 184;refine (has m k 1 _ hm (by omega) h1 (by omega) (by omega)).mono ?_;rintro e w' ⟨rfl,rfl⟩)
   all_goals go_ret2
   all_goals refine qUk (qKq ?_ rfl)
   all_goals (show _ % 4294967296=Sg.byte m k;have hx:=Sg.sB hf;have hy:=Sg.sC m k;rw [← hx] at hy ⊢;exact Int.emod_eq_of_lt (by omega) (by omega))
 · rw [if_neg hw,if_neg hw];have hn:Sg.has m a 1=false:=by simpa using hw
   go_in;go_wp2_with (go_at_call 184;refine (has m a 1 _ hm h0 h1 (by omega) (by omega)).mono ?_;rintro e w' ⟨rfl,rfl⟩)
   all_goals go_ret2
   all_goals exact ⟨rfl,rfl⟩
theorem qMp:∀ w,(Go.sizeOf 5).run prog w=.ok 1 w:=fun _=> by kernel_rfl
theorem qQn (m:ByteArray) (k:Nat) (s:ByteArray) (w:World) (hm:m.size≤140737488355328) (h1:k<4294967296) (hf:k + s.size≤m.size):
 Calls prog 185 #[.string m,.int .u32 k,.string s] w (aN (.string (Sg.put m k s.data.toList)) w):=by
 have hcv:=run_bytes_of_string (P:=prog) w 9 262 5 m underlying9 underlying262 underlying5;have hge:=grownCap_ge w m.size 0 5;generalize grownCap w m.size 0 5=cap at hcv hge;have hrow:=Sg.qPz w m cap 5 ((bytesRow m cap).size,(bytesRow m cap).size + 1);have hfree:=Sg.qQa w m cap 5;have hbel:Below w.heap.size w (w.alloc (.cells (bytesRow m cap) 5 ((bytesRow m cap).size,(bytesRow m cap).size + 1))).drew:=bel;generalize hW:(w.alloc (.cells (bytesRow m cap) 5 ((bytesRow m cap).size,(bytesRow m cap).size + 1))).drew=W at hrow hfree hbel
 have hcp:=Go.run_copy_string (P:=prog) W 262 9 3 5 w.heap.size k (m.size - k) (cap - k) s underlying262 qMp (by omega)
  (fun j hj=> by rw [hrow _ (by omega)];rfl) (fun j hj=> hfree _ (by omega))
 have hback:=Sg.qFm (P:=prog) W 262 9 5 underlying262 underlying5 underlying9 w.heap.size cap m s k hrow hf;have hbel2:Hid (Below w.heap.size w (W.setCells w.heap.size k (s.data.toList.map fun x=> Value.int .u8 (x.toNat:Int)))):=hU (Go.below_setCells (Nat.le_refl _) _ _ _ hbel);generalize W.setCells w.heap.size k (s.data.toList.map fun x=> Value.int .u8 (x.toNat:Int))=W2 at hcp hback hbel2;by_cases hk:cap=k
 · obtain rfl:cap=m.size:=by omega
   obtain rfl:m.size=k:=by omega
   have h0:s.size=0:=by omega
   have hcp0:=Lib.run_copy_empty_string (P:=prog) W 262 9 3 5 (some ⟨w.heap.size,0,none⟩) 0 0 s underlying262 (by kernel_rfl) h0;have hback0:=Sg.qLb (P:=prog) W 262 9 5 underlying262 underlying5 underlying9 w.heap.size m.size m hrow;rw [Sg.qGo m _ h0];clear hcp hback hrow hfree hf h0;go_in;go_wp2_with fail
   go_ret;exact ⟨rfl,hbel⟩
 · have hk':k<cap:=by omega
   have hkm:k≤m.size:=by omega
   have H:=hU hf;clear hrow hfree hf;go_in;go_wp2_with fail
   go_ret;exact ⟨rfl,hbel2.out⟩
theorem qFa (m:ByteArray) (a:Int) (s:ByteArray) (w:World) (hm:m.size≤140737488355328) (h0:0≤a) (h1:a<4294967296) (hf:a + s.size≤m.size):
 Calls prog 185 #[.string m,.int .u32 a,.string s] w (aN (.string (Sg.put m a.toNat s.data.toList)) w):=by
 obtain ⟨k,rfl⟩:=Int.eq_ofNat_of_zero_le h0;exact qQn m k s w hm (by omega) (by omega)
theorem qFh (m:ByteArray) (a v:Int) (w:World) (hm:m.size≤140737488355328) (h0:0≤a) (h1:a<4294967296) (hw:Sg.isWord m a=false):
 Calls prog 131 #[.string m,.int .u32 a,.int .u32 v] w (aN (.tuple #[.string m,.int .i64 10]) w):=by
 go_in;go_wp2_with (go_at_call 182;refine (word m a _ hm h0 h1).mono ?_;rintro e w' ⟨rfl,rfl⟩)
 all_goals go_ret2
 all_goals exact ⟨rfl,bel⟩
theorem qKv (m:ByteArray) (a v:Int) (w:World) (hm:m.size≤140737488355328) (h0:0≤a) (h1:a<4294967296) (v0:0≤v) (v1:v<4294967296) (hw:Sg.isWord m a=true) (hf:a + 4≤m.size):
 Calls prog 131 #[.string m,.int .u32 a,.int .u32 v] w (aN (.tuple #[.string (Sg.put m a.toNat (Sg.qF v)),.int .i64 0]) w):=by
 have hb4:=Sg.qZg (P:=prog) w 262 9 5 282 4 underlying262 underlying5 underlying9 v v0 v1;go_in;go_wp2_with (go_at_call 182;refine (word m a _ hm h0 h1).mono ?_;rintro e w' ⟨rfl,rfl⟩)
 refine wp_loop_rounds 5 ?_;repeat any_goals (rw [rounds_succ];go_wp2_with fail)
 refine (qFa m a ⟨(Sg.qF v).toArray⟩ _ hm h0 h1 hf).mono ?_;rintro e w1 ⟨rfl,hb1⟩;dsimp only;refine sg ?_;intros;all_goals go_ret2
 all_goals exact ⟨rfl,bel⟩
theorem qYx (m:ByteArray) (a v:Int) (w:World) (hm:m.size≤140737488355328) (h0:0≤a) (h1:a<4294967296) (v0:0≤v) (v1:v<4294967296):
 Calls prog 131 #[.string m,.int .u32 a,.int .u32 v] w (aN (.tuple #[.string (Sg.qIq m a v),.int .i64 (Sg.qCu m a)]) w):=by
 unfold Sg.qIq Sg.qCu;by_cases hw:Sg.isWord m a=true
 · rw [if_pos hw,if_pos hw]
   have hf:a + 4≤m.size:=by
    simp only [Sg.isWord,Sg.has,Bool.and_eq_true,decide_eq_true_eq] at hw;omega
   exact qKv m a v w hm h0 h1 v0 v1 hw hf
 · rw [if_neg hw,if_neg hw];exact qFh m a v w hm h0 h1 (by simpa using hw)
theorem Put (m:ByteArray) (a v:Int) (w:World) (hm:m.size≤140737488355328) (h0:0≤a) (h1:a<4294967296) (v0:0≤v) (v1:v<4294967296):
 Calls prog 132 #[.string m,.int .u32 a,.int .u32 v] w (aN (.tuple #[.string (Sg.putM m a v),.int .i64 (Sg.xU m a)]) w):=by
 unfold Sg.putM Sg.xU;by_cases hw:Sg.has m a 1=true
 · rw [if_pos hw,if_pos hw]
   have hf:a + 1≤m.size:=by
    simp only [Sg.has,decide_eq_true_eq] at hw;omega
   have hb4:=Sg.qZf (P:=prog) w 262 9 5 5 1 underlying262 underlying5 underlying9 (v % 256) (by omega) (by omega);go_in;go_wp2_with (go_at_call 184;refine (has m a 1 _ hm h0 h1 (by omega) (by omega)).mono ?_;rintro e w' ⟨rfl,rfl⟩)
   refine (qFa m a ⟨#[UInt8.ofNat (v % 256).toNat]⟩ _ hm h0 h1 hf).mono ?_;rintro e w1 ⟨rfl,hb1⟩;dsimp only;refine sg ?_;intros;all_goals go_ret2
   all_goals exact ⟨rfl,bel⟩
 · rw [if_neg hw,if_neg hw];have hn:Sg.has m a 1=false:=by simpa using hw
   go_in;go_wp2_with (go_at_call 184;refine (has m a 1 _ hm h0 h1 (by omega) (by omega)).mono ?_;rintro e w' ⟨rfl,rfl⟩)
   all_goals go_ret2
   all_goals exact ⟨rfl,bel⟩
end Seg
namespace SegK
end SegK
theorem qKe:∀ c,Lib.repeatL [0] c=List.replicate c (0:UInt8)
 |0=> rfl
 |c + 1=> by
  show [0] ++ Lib.repeatL [0] c=_
  rw [qKe c];rfl
namespace Seg
theorem Out (m:ByteArray) (a n:Int) (w:World) (hm:m.size≤140737488355328) (h0:0≤a) (h1:a<4294967296) (n0:0≤n) (n1:n<4294967296):
 Calls prog 216 #[.string m,.int .u32 a,.int .u32 n] w (Is (.tuple #[.string (Sg.sY m a n),.int .i64 (Sg.uL m a n)]) w):=by
 unfold Sg.sY Sg.uL;by_cases hw:Sg.has m a n=true
 · rw [if_pos hw,if_pos hw];have hf:a + n≤m.size:=by simpa [Sg.has] using hw
   go_in;go_wp2_with (go_at_call 184;refine (has m a n _ hm h0 h1 n0 (by omega)).mono ?_;rintro e w' ⟨rfl,rfl⟩)
   all_goals go_ret2
   all_goals exact ⟨rfl,rfl⟩
 · rw [if_neg hw,if_neg hw];have hn:Sg.has m a n=false:=by simpa using hw
   go_in;go_wp2_with (go_at_call 184;refine (has m a n _ hm h0 h1 n0 (by omega)).mono ?_;rintro e w' ⟨rfl,rfl⟩)
   all_goals go_ret2
   all_goals exact ⟨rfl,rfl⟩
theorem In (m:ByteArray) (a:Int) (s:ByteArray) (w:World) (hm:m.size≤140737488355328) (hs:s.size≤140737488355328) (h0:0≤a) (h1:a<4294967296):
 Calls prog 219 #[.string m,.int .u32 a,.string s] w (aN (.tuple #[.string (Sg.inM m a s),.int .i64 (Sg.inE m a s)]) w):=by
 unfold Sg.inM Sg.inE;by_cases hw:Sg.has m a s.size=true
 · rw [if_pos hw,if_pos hw];have hf:a + s.size≤m.size:=by simpa [Sg.has] using hw
   go_in;go_wp2_with (first|(go_at_call 184;refine (has m a s.size _ hm h0 h1 (by omega) (by omega)).mono ?_;rintro e w' ⟨rfl,rfl⟩)|(go_at_call 185;refine (qFa m a s _ hm h0 h1 hf).mono ?_;rintro e w1 ⟨rfl,hb1⟩))
   all_goals go_ret2
   all_goals exact ⟨rfl,bel⟩
 · rw [if_neg hw,if_neg hw];have hn:Sg.has m a s.size=false:=by simpa using hw
   go_in;go_wp2_with (go_at_call 184;refine (has m a s.size _ hm h0 h1 (by omega) (by omega)).mono ?_;rintro e w' ⟨rfl,rfl⟩)
   all_goals go_ret2
   all_goals exact ⟨rfl,bel⟩
def qQt (c:Int):ByteArray:=⟨(List.replicate c.toNat 0).toArray⟩
theorem qJc (c:Int):(qQt c).size=c.toNat:=by
 show (List.toArray _).size=_
 rw [List.size_toArray,List.length_replicate]
theorem qLc (s:ByteArray) (c:Int):s ++ qQt c=⟨(s.data.toList ++ List.replicate c.toNat 0).toArray⟩:=ByteArray.mk_append_mk s.data.toList _
theorem qKt (c:Int) (w:World) (h0:0≤c) (h1:c≤1024):
 Calls prog 111 #[.string ⟨#[0]⟩,.int .i64 c] w (aN (.string (qQt c)) w):=by
 obtain ⟨n,rfl⟩:=Int.eq_ofNat_of_zero_le h0;have h:=Tryz.strings_Repeat ⟨#[0]⟩ n w (by omega) (by show 1 * n≤_;omega);rw [show (⟨#[0]⟩:ByteArray).data.toList=[0] from rfl,qKe] at h;exact h
theorem qNl (n:Int) (s:ByteArray) (w:World) (h0:0≤n) (h1:n≤1024) (h2:s.size≤n):
 Calls prog 74 #[.int .i64 n,.string s] w (aN (.tuple #[.string ⟨(s.data.toList ++ List.replicate (n - s.size).toNat 0).toArray⟩,.int .i64 0]) w):=by
 have hz:=qJc (n - s.size);go_in;go_wp2_with (go_at_call 111;refine (qKt _ _ (by omega) (by omega)).mono ?_;rintro e w1 ⟨rfl,hb1⟩)
 go_ret2
 exact cF (qTo (qLc s (n - s.size)) rfl) bel
theorem Make (n:Int) (s:ByteArray) (w:World):
 Calls prog 74 #[.int .i64 n,.string s] w (aN (.tuple #[.string (Sg.qCv n s),.int .i64 (Sg.uG n s)]) w):=by
 unfold Sg.qCv Sg.uG;by_cases h:n<0∨1024<n
 · rw [if_neg (by omega),if_pos h];go_in;go_wp2_with fail
   all_goals go_ret2
   all_goals exact ⟨rfl,bel⟩
 · rw [if_neg h];by_cases h2:n<s.size
   · rw [if_neg (by omega),if_pos h2];have h3:0≤n:=by omega
     have h4:n≤1024:=by omega
     go_in;go_wp2_with fail
     all_goals go_ret2
     all_goals exact ⟨rfl,bel⟩
   · rw [if_pos (by omega),if_neg h2];exact qNl n s w (by omega) (by omega) (by omega)
end Seg
end Go.Proofs.YtfncknignkndiaaGreatDoor
namespace Go.Proofs.YtfncknignkndiaaGreatDoor
open Tryz
open Go.RowKit KR
namespace Kn
theorem qAd (b:Nat) (k:aI) (n:Int) (w:World) (hk:cH w b k) (n0:0≤n) (n1:n<4294967296) (hi:k.images.length≤8796093022207):
 Calls prog 37 #[.pointer (some ⟨b,0,none⟩),.int .u32 n] w (aN (.tuple #[.string (eG k n),.int .i64 (dA k n)]) w):=by
 obtain ⟨y,bs,hk0,hl⟩:=hk;obtain ⟨ia,ic,him,hic,hcm⟩:=hl.im.shape;have HS:=hU hl.im;rw [him] at HS;have kim:w.cell? ⟨b,8,none⟩=some (.slice ia k.images.length ic):=(show w.cell? ⟨b,8,none⟩=some y.im from aC hk0 8).trans (congrArg some him);obtain ⟨m,rfl⟩:=Int.eq_ofNat_of_zero_le n0;clear hk0 hl him;by_cases hlt':m<k.images.length
 · obtain ⟨s,hs⟩:∃ s,k.images[m]? =some s:=⟨_,List.getElem?_eq_getElem hlt'⟩
   have hw1:(m:Int) % 18446744073709551616=(m:Int):=by omega
   have hw2:(k.images.length:Int) % 18446744073709551616=(k.images.length:Int):=by omega
   have hltI:(m:Int)<(k.images.length:Int):=by omega
   have hM:eG k m=Sg.qCv 64 s:=by rw [eG,Int.toNat_natCast,hs]
   have hE:dA k m=Sg.uG 64 s:=by rw [dA,Int.toNat_natCast,hs]
   obtain ⟨hnl,_,_,hel⟩:=HS.out.elem;clear hnl;obtain ⟨ib,off,rfl,hbl,hcell'⟩:=hel m s hs
   have c0:w.cell? ⟨ib,off + m,none⟩=some (.string s):=by
    have h:=hcell' w (Below.refl _ _) 0 (.string s) rfl;simpa using h
   have HMK:=hU (Seg.Make 64 s w);clear hel hcell';rw [hM,hE];have hd:decide (k.images.length≤m)=false:=by simp;omega
   clear hM hE HS hltI hs;go_in;repeat' (first|(go_at_call 74;refine HMK.out.mono ?_;rintro e w1 ⟨rfl,hb⟩;dsimp only)|go_values|go_skip|go_guarded|refine wg ?_|go_step|go_upon)
   go_ret2
   exact ⟨rfl,hb⟩
 · have hltI:¬ (m:Int)<(k.images.length:Int):=by omega
   have hn:k.images[m]? =none:=List.getElem?_eq_none (by omega);have hM:eG k m=⟨#[]⟩:=by rw [eG,Int.toNat_natCast,hn]
   have hE:dA k m=7:=by rw [dA,Int.toNat_natCast,hn]
   rw [hM,hE];have hd:decide (k.images.length≤m)=true:=by simp;omega
   clear hM hE hn HS hltI;go_in;refine sg ?_;intros;go_ret2
   exact ⟨rfl,Below.refl _ _⟩
