/- An image of the two instructions of the law's example, as its helper makes it. No condition. Rows that are handed in, as they are read: of what type their memory is, is not known. Clones of such. Condition: as many as Go can hold. A row of boxes as make lays it; ways that come together again. Condition: a million at most. How kern's functions begin: what they are handed lies in boxes. No condition. -/
import Derived.Test.YtalapfkfdhpomaaGreatDoorGWork
import Derived.Test.YtalapfkfdhpomaaGreatDoorG1
import Derived.Laws.IdiomStrings
import Derived.Test.YtalapfkfdhpomaaGreatDoorGPort
import Derived.Laws.OwnMore
import Derived.Test.YtalapfkfdhpomaaGreatDoorGTurn
set_option linter.unusedVariables false
set_option linter.unusedSimpArgs false
namespace Go.Proofs.YtalapfkfdhpomaaGreatDoor
open Go.RowKit
namespace Kn
theorem RUsesA1 (w:World):Calls Tryz.prog 159 #[.int .i64 1] w (Gives (.bool true) w):=by
 go_enter Tryz.func159,Tryz.ntmps159
 repeat' (first|go_values|go_skip|go_guarded|(with_reducible refine Way.go ?_)|go_step|go_upon)
 go_ret
 exact gives_of rfl (by repeat with_reducible first|exact Below.refl _ _|assumption|refine Below.to ?_ (by assumption)|refine blN ?_|refine blA ?_|refine blS ?_|refine blD ?_)
theorem RUsesB1 (w:World):Calls Tryz.prog 160 #[.int .i64 1] w (Gives (.bool false) w):=by
 go_enter Tryz.func160,Tryz.ntmps160
 repeat' (first|go_values|go_skip|go_guarded|(with_reducible refine Way.go ?_)|go_step|go_upon)
 go_ret
 exact gives_of rfl (by repeat with_reducible first|exact Below.refl _ _|assumption|refine Below.to ?_ (by assumption)|refine blN ?_|refine blA ?_|refine blS ?_|refine blD ?_)
theorem RUsesI1 (w:World):Calls Tryz.prog 161 #[.int .i64 1] w (Gives (.bool true) w):=by
 go_enter Tryz.func161,Tryz.ntmps161
 repeat' (first|go_values|go_skip|go_guarded|(with_reducible refine Way.go ?_)|go_step|go_upon)
 go_ret
 exact gives_of rfl (by repeat with_reducible first|exact Below.refl _ _|assumption|refine Below.to ?_ (by assumption)|refine blN ?_|refine blA ?_|refine blS ?_|refine blD ?_)
theorem RUsesA24 (w:World):Calls Tryz.prog 159 #[.int .i64 24] w (Gives (.bool false) w):=by
 go_enter Tryz.func159,Tryz.ntmps159
 repeat' (first|go_values|go_skip|go_guarded|(with_reducible refine Way.go ?_)|go_step|go_upon)
 go_ret
 exact gives_of rfl (by repeat with_reducible first|exact Below.refl _ _|assumption|refine Below.to ?_ (by assumption)|refine blN ?_|refine blA ?_|refine blS ?_|refine blD ?_)
theorem RUsesB24 (w:World):Calls Tryz.prog 160 #[.int .i64 24] w (Gives (.bool false) w):=by
 go_enter Tryz.func160,Tryz.ntmps160
 repeat' (first|go_values|go_skip|go_guarded|(with_reducible refine Way.go ?_)|go_step|go_upon)
 go_ret
 exact gives_of rfl (by repeat with_reducible first|exact Below.refl _ _|assumption|refine Below.to ?_ (by assumption)|refine blN ?_|refine blA ?_|refine blS ?_|refine blD ?_)
theorem RUsesI24 (w:World):Calls Tryz.prog 161 #[.int .i64 24] w (Gives (.bool false) w):=by
 go_enter Tryz.func161,Tryz.ntmps161
 repeat' (first|go_values|go_skip|go_guarded|(with_reducible refine Way.go ?_)|go_step|go_upon)
 go_ret
 exact gives_of rfl (by repeat with_reducible first|exact Below.refl _ _|assumption|refine Below.to ?_ (by assumption)|refine blN ?_|refine blA ?_|refine blS ?_|refine blD ?_)
set_option maxHeartbeats 2000000 in
set_option maxRecDepth 100000 in
theorem RMay1 (w:World):Calls Tryz.prog 112 #[.agg #[.int .i64 1,.int .i64 0,.int .i64 0,.int .i64 6]] w (Gives (.bool true) w):=by
 go_enter Tryz.func112,Tryz.ntmps112
 repeat' (first|go_values|go_skip|go_guarded|(with_reducible refine Way.go ?_)|go_step|go_upon)
 refine (RUsesA1 _).mono ?_
 rintro e w1 ⟨rfl,h1⟩
 obtain ⟨ch1,fh1,zh1⟩:=bfacts h1
 try simp at zh1
 have y0h1:w.heap.size<w1.heap.size:=by omega
 try (have y1h1:w.heap.size + 1<w1.heap.size:=by omega)
 try (have y2h1:w.heap.size + 1 + 1<w1.heap.size:=by omega)
 dsimp only
 repeat' (first|go_values|go_skip|go_guarded|(with_reducible refine Way.go ?_)|go_step|go_upon)
 refine (RUsesB1 _).mono ?_
 rintro e w2 ⟨rfl,h2⟩
 obtain ⟨ch2,fh2,zh2⟩:=bfacts h2
 try simp at zh2
 have y0h2:w.heap.size<w2.heap.size:=by omega
 try (have y1h2:w.heap.size + 1<w2.heap.size:=by omega)
 try (have y2h2:w.heap.size + 1 + 1<w2.heap.size:=by omega)
 dsimp only
 repeat' (first|go_values|go_skip|go_guarded|(with_reducible refine Way.go ?_)|go_step|go_upon)
 refine (RUsesI1 _).mono ?_
 rintro e w3 ⟨rfl,h3⟩
 obtain ⟨ch3,fh3,zh3⟩:=bfacts h3
 try simp at zh3
 have y0h3:w.heap.size<w3.heap.size:=by omega
 try (have y1h3:w.heap.size + 1<w3.heap.size:=by omega)
 try (have y2h3:w.heap.size + 1 + 1<w3.heap.size:=by omega)
 dsimp only
 repeat' (first|go_values|go_skip|go_guarded|(with_reducible refine Way.go ?_)|go_step|go_upon)
 go_ret
 exact gives_of rfl (by repeat with_reducible first|exact Below.refl _ _|assumption|refine Below.to ?_ (by assumption)|refine blN ?_|refine blA ?_|refine blS ?_|refine blD ?_)
set_option maxHeartbeats 2000000 in
set_option maxRecDepth 100000 in
theorem RMay24 (w:World):Calls Tryz.prog 112 #[.agg #[.int .i64 24,.int .i64 0,.int .i64 0,.int .i64 0]] w (Gives (.bool true) w):=by
 go_enter Tryz.func112,Tryz.ntmps112
 repeat' (first|go_values|go_skip|go_guarded|(with_reducible refine Way.go ?_)|go_step|go_upon)
 refine (RUsesA24 _).mono ?_
 rintro e w1 ⟨rfl,h1⟩
 obtain ⟨ch1,fh1,zh1⟩:=bfacts h1
 try simp at zh1
 have y0h1:w.heap.size<w1.heap.size:=by omega
 try (have y1h1:w.heap.size + 1<w1.heap.size:=by omega)
 try (have y2h1:w.heap.size + 1 + 1<w1.heap.size:=by omega)
 dsimp only
 repeat' (first|go_values|go_skip|go_guarded|(with_reducible refine Way.go ?_)|go_step|go_upon)
 refine (RUsesB24 _).mono ?_
 rintro e w2 ⟨rfl,h2⟩
 obtain ⟨ch2,fh2,zh2⟩:=bfacts h2
 try simp at zh2
 have y0h2:w.heap.size<w2.heap.size:=by omega
 try (have y1h2:w.heap.size + 1<w2.heap.size:=by omega)
 try (have y2h2:w.heap.size + 1 + 1<w2.heap.size:=by omega)
 dsimp only
 repeat' (first|go_values|go_skip|go_guarded|(with_reducible refine Way.go ?_)|go_step|go_upon)
 refine (RUsesI24 _).mono ?_
 rintro e w3 ⟨rfl,h3⟩
 obtain ⟨ch3,fh3,zh3⟩:=bfacts h3
 try simp at zh3
 have y0h3:w.heap.size<w3.heap.size:=by omega
 try (have y1h3:w.heap.size + 1<w3.heap.size:=by omega)
 try (have y2h3:w.heap.size + 1 + 1<w3.heap.size:=by omega)
 dsimp only
 repeat' (first|go_values|go_skip|go_guarded|(with_reducible refine Way.go ?_)|go_step|go_upon)
 go_ret
 exact gives_of rfl (by repeat with_reducible first|exact Below.refl _ _|assumption|refine Below.to ?_ (by assumption)|refine blN ?_|refine blA ?_|refine blS ?_|refine blD ?_)
set_option maxHeartbeats 2000000 in
set_option maxRecDepth 100000 in
theorem RWord1 (w:World):Calls Tryz.prog 78 #[.agg #[.int .i64 1,.int .i64 0,.int .i64 0,.int .i64 6]] w (Gives (.tuple #[.int .u32 16777222,.int .i64 0]) w):=by
 go_enter Tryz.func78,Tryz.ntmps78
 repeat' (first|go_values|go_skip|go_guarded|(with_reducible refine Way.go ?_)|go_step|go_upon)
 refine (RMay1 _).mono ?_
 rintro e w1 ⟨rfl,h1⟩
 obtain ⟨ch1,fh1,zh1⟩:=bfacts h1
 try simp at zh1
 have y0h1:w.heap.size<w1.heap.size:=by omega
 try (have y1h1:w.heap.size + 1<w1.heap.size:=by omega)
 try (have y2h1:w.heap.size + 1 + 1<w1.heap.size:=by omega)
 dsimp only
 repeat' (first|go_values|go_skip|go_guarded|(with_reducible refine Way.go ?_)|go_step|go_upon)
 go_ret2
 exact gives_of rfl (by repeat with_reducible first|exact Below.refl _ _|assumption|refine Below.to ?_ (by assumption)|refine blN ?_|refine blA ?_|refine blS ?_|refine blD ?_)
set_option maxHeartbeats 2000000 in
set_option maxRecDepth 100000 in
theorem RWord24 (w:World):Calls Tryz.prog 78 #[.agg #[.int .i64 24,.int .i64 0,.int .i64 0,.int .i64 0]] w (Gives (.tuple #[.int .u32 402653184,.int .i64 0]) w):=by
 go_enter Tryz.func78,Tryz.ntmps78
 repeat' (first|go_values|go_skip|go_guarded|(with_reducible refine Way.go ?_)|go_step|go_upon)
 refine (RMay24 _).mono ?_
 rintro e w1 ⟨rfl,h1⟩
 obtain ⟨ch1,fh1,zh1⟩:=bfacts h1
 try simp at zh1
 have y0h1:w.heap.size<w1.heap.size:=by omega
 try (have y1h1:w.heap.size + 1<w1.heap.size:=by omega)
 try (have y2h1:w.heap.size + 1 + 1<w1.heap.size:=by omega)
 dsimp only
 repeat' (first|go_values|go_skip|go_guarded|(with_reducible refine Way.go ?_)|go_step|go_upon)
 go_ret2
 exact gives_of rfl (by repeat with_reducible first|exact Below.refl _ _|assumption|refine Below.to ?_ (by assumption)|refine blN ?_|refine blA ?_|refine blS ?_|refine blD ?_)
theorem owns_slice {W:World} {base:Nat} {e:TypeId} {size:Nat} {v:Value} {n:Nat} {xs:List Value} (h:W.ownsRow base e size v n xs):∃ a c,v=.slice a n c:=by
 rcases h.2 with ⟨rfl,rfl⟩|⟨g,cap,cur,rfl,_⟩
 · exact ⟨none,0,rfl⟩
 · exact ⟨_,_,rfl⟩
theorem owns_below {W W':World} {base:Nat} {e:TypeId} {size:Nat} {v:Value} {n:Nat} {xs:List Value} (h:W.ownsRow base e size v n xs) (hb:Below W.heap.size W W'):W'.ownsRow base e size v n xs:=by
 refine ⟨h.1,?_⟩
 rcases h.2 with hn|⟨g,cap,cur,rfl,hb',hgg,rest⟩
 · exact .inl hn
 · exact .inr ⟨g,cap,cur,rfl,hb',(hb.block g (KR.hlt hgg)).trans hgg,rest⟩
def bs8:List UInt8:=[6,0,0,1,0,0,0,24]
def bv (l:List UInt8):List Value:=l.map (fun b=> .int .u8 (b.toNat:Int))
theorem one_bv (l:List UInt8):∀ u ∈ bv l,u.oneCell'=true:=by
 intro u hu
 obtain ⟨b,_,rfl⟩:=List.mem_map.1 hu
 rfl
def BI (w:World) (sv iv:Value) (wr:World):Prop:=∃ k:Nat,k≤2∧iv=.int .i64 k∧wr.ownsRow w.heap.size 5 1 sv (4 * k) (bv (bs8.take (4 * k)))∧Below w.heap.size w wr
theorem bytes_app {w W:World} {v:Value} {n:Nat} {xs ns:List UInt8} (h:W.ownsRow w.heap.size 5 1 v n (bv xs)) (hb:Below w.heap.size w W) (hn:n≤100) (hl:ns.length=4):
 ∃ v' W',(Builtin.append_ #[152,152] 152 #[v,.slice (some ⟨W.heap.size,0,none⟩) 4 4]).run Tryz.prog (W.alloc (.cells (bv ns).toArray 5))=.ok v' W'∧W'.ownsRow w.heap.size 5 1 v' (n + 4) (bv (xs ++ ns))∧Below w.heap.size w W':=by
 have hi:(Tryz.prog.info? 5).map (fun i=> (i.zero.map (·.cells.size),i.size,i.bytes))=some (some 1,1,1):=by kernel_rfl
 obtain ⟨i,z,hi0,hz,hzs,hs,hby⟩:=info_cells hi
 have hz1:=hb.size
 have hnl:(bv ns).length=4:=by unfold bv;rw [List.length_map,hl]
 obtain ⟨v2,W2,hrun,hown,hgrow,_⟩:=run_append_own (P:=Tryz.prog) (W.alloc (.cells (bv ns).toArray 5)) w.heap.size 152 152 5 i z 1 1 Tryz.underlying152 hi0 hz hs hby hzs (by decide) v n (bv xs) (h.alloc _)
  ⟨W.heap.size,0,none⟩ 4 4 (bv ns) (by rw [hnl]) (by intro j u hj;rw [KR.add0,Nat.zero_add,KR.hcell (KR.hnew W _)];simpa using hj) (one_bv ns) (by unfold maxLen;omega) (by omega) (by rw [World.size_alloc];omega)
 refine ⟨v2,W2,hrun,?_,(hb.alloc hz1 _).grown hgrow (by rw [World.size_alloc];omega) (fun k hk=> (World.ownsRow.lt h k hk).1)⟩
 have:bv (xs ++ ns)=bv xs ++ bv ns:=by unfold bv;rw [List.map_append]
 rw [this]
 exact hown
set_option maxHeartbeats 4000000 in
set_option maxRecDepth 100000 in
theorem RBytes2 (g:Nat) (w:World) (hh:w.heap[g]? =some (.cells #[.int .i64 1,.int .i64 0,.int .i64 0,.int .i64 6,.int .i64 24,.int .i64 0,.int .i64 0,.int .i64 0] 89 (0,0))):
 Calls Tryz.prog 55 #[.slice (some ⟨g,0,none⟩) 2 2] w (Gives (.tuple #[.string ⟨#[6,0,0,1,0,0,0,24]⟩,.int .i64 0]) w):=by
 have hg:=KR.hlt hh
 have HC:=hU (fun W (hb:Below w.heap.size w W) j=> KR.hcell ((hb.block g hg).trans hh) j)
 clear hh
 go_enter Tryz.func55,Tryz.ntmps55
 repeat' (first|go_values|go_skip|go_guarded|(with_reducible refine Way.go ?_)|go_step|go_upon)
 go_loopw [4,5] (fun sv iv wr=> BI w sv iv wr) (fun _ iv _=> 2 - (intOf iv).toNat)
 case atStart=> exact ⟨0,Nat.zero_le _,rfl,World.ownsRow_nil _ _ _ _,Below.refl _ _⟩
 case round=>
  obtain ⟨k,hk,rfl,hown,hb⟩:=hrel
  have hzr:=hb.size
  have HB:=hU hb
  have HO:=hU hown
  obtain ⟨a,c,rfl⟩:=owns_slice hown
  obtain ⟨n,hn⟩:∃ n,4 * k=n:=⟨_,rfl⟩
  have HN:=hU hn
  rw [hn] at HO ⊢
  clear hb hown hn
  rcases (by omega:k=0∨k=1∨k=2) with rfl|rfl|rfl
  · have a0:=HC.out wr HB.out 0
    have a1:=HC.out wr HB.out 1
    have a2:=HC.out wr HB.out 2
    have a3:=HC.out wr HB.out 3
    repeat' (first|go_values|go_skip|go_guarded|(with_reducible refine Way.go ?_)|go_step|go_upon)
    refine (RWord1 _).mono ?_
    rintro e w1 ⟨rfl,h1⟩
    have hz1:=h1.size
    clear a0 a1 a2 a3
    obtain ⟨v2,W2,hrun,hown,hb2⟩:=bytes_app (w:=w) (W:=w1) (ns:=[6,0,0,1]) (owns_below HO.out h1) (HB.out.trans (h1.mono hzr)) (by have:=HN.out;omega) rfl
    have hr2:(Builtin.append_ #[152,152] 152 #[.slice a n c,.slice (some ⟨w1.heap.size,0,none⟩) 4 4]).run Tryz.prog (w1.alloc (.cells #[.int .u8 6,.int .u8 0,.int .u8 0,.int .u8 1] 5))=.ok v2 W2:=hrun
    have HRUN:=hU hr2
    clear hr2
    have HO2:=hU hown
    have HB2:=hU hb2
    clear hrun hown hb2 h1 HO HB
    dsimp only
    repeat' (first|(at_builtin;refine KR.wpList_append_run _ rfl _ _ _ _ rfl _ _ rfl rfl _ _ HRUN.out ?_)|go_values|go_skip|go_guarded|(with_reducible refine Way.go ?_)|go_step|go_upon)
    exact ⟨⟨1,by decide,by go_num,by have h:=HO2.out;rw [← HN.out] at h;exact h,HB2.out⟩,by simp [intOf]⟩
  · have a0:=HC.out wr HB.out 4
    have a1:=HC.out wr HB.out 5
    have a2:=HC.out wr HB.out 6
    have a3:=HC.out wr HB.out 7
    repeat' (first|go_values|go_skip|go_guarded|(with_reducible refine Way.go ?_)|go_step|go_upon)
    refine (RWord24 _).mono ?_
    rintro e w1 ⟨rfl,h1⟩
    have hz1:=h1.size
    clear a0 a1 a2 a3
    obtain ⟨v2,W2,hrun,hown,hb2⟩:=bytes_app (w:=w) (W:=w1) (ns:=[0,0,0,24]) (owns_below HO.out h1) (HB.out.trans (h1.mono hzr)) (by have:=HN.out;omega) rfl
    have hr2:(Builtin.append_ #[152,152] 152 #[.slice a n c,.slice (some ⟨w1.heap.size,0,none⟩) 4 4]).run Tryz.prog (w1.alloc (.cells #[.int .u8 0,.int .u8 0,.int .u8 0,.int .u8 24] 5))=.ok v2 W2:=hrun
    have HRUN:=hU hr2
    clear hr2
    have HO2:=hU hown
    have HB2:=hU hb2
    clear hrun hown hb2 h1 HO HB
    dsimp only
    repeat' (first|(at_builtin;refine KR.wpList_append_run _ rfl _ _ _ _ rfl _ _ rfl rfl _ _ HRUN.out ?_)|go_values|go_skip|go_guarded|(with_reducible refine Way.go ?_)|go_step|go_upon)
    exact ⟨⟨2,by decide,by go_num,by have h:=HO2.out;rw [← HN.out] at h;exact h,HB2.out⟩,by simp [intOf]⟩
  · have hcv:(convert 152 9 (.slice a n c)).run Tryz.prog wr=.ok (.string ⟨#[6,0,0,1,0,0,0,24]⟩) wr:=by
     have hn8:n=8:=HN.out.symm
     subst hn8
     rcases HO.out.2 with ⟨h,h0⟩|⟨g',cap,cur,he,hBg,hgg,hc1,hc2,hc3,hc4⟩
     · cases h0
     · injection he with ha hn hc
       subst ha hc
       refine run_convert_bytes_back (P:=Tryz.prog) _ _ _ 5 ⟨g',0,none⟩ c bs8 Tryz.underlying152 Tryz.underlying5 Tryz.underlying9 fun j hj=> ?_
       rw [KR.add0,Nat.zero_add,KR.hcell hgg]
       have h4:(bv (bs8.take 8))[j]? =some (.int .u8 (bs8[j].toNat:Int)):=by
        show ((bs8.take 8).map _)[j]? =_
        rw [List.take_of_length_le (by decide),List.getElem?_map,List.getElem?_eq_getElem hj]
        rfl
       rw [← hc4,List.getElem?_take] at h4
       split at h4
       · simpa using h4
       · cases h4
    have hzq:=HB.out
    repeat' (first|go_values|go_skip|go_guarded|(with_reducible refine Way.go ?_)|go_step|go_upon)
    go_ret2
    exact gives_of rfl HB.out
end Kn
end Go.Proofs.YtalapfkfdhpomaaGreatDoor
namespace Go.Proofs.YtalapfkfdhpomaaGreatDoor
open Go.RowKit KR
namespace Kn
def Rd {α:Type} (sz:Nat) (f:α→Array Value) (W:World) (v:Value) (l:List α):Prop:=
 ∃ a c,v=.slice a l.length c∧l.length≤c∧c≤9223372036854775807∧
   (l=[]∨∃ b off,a=some ⟨b,off,none⟩∧b<W.heap.size∧∀ i x,l[i]? =some x→∀ j u,(f x)[j]? =some u→W.cell? ⟨b,off + i * sz + j,none⟩=some u)
section
variable {α:Type} {sz:Nat} {f:α→Array Value} {W W':World} {v:Value} {l:List α}
theorem _root_.Go.Proofs.YtalapfkfdhpomaaGreatDoor.KR.Sl.rd {E:TypeId} (h:Sl E sz f W v l):Rd sz f W v l:=by
 obtain ⟨a,c,rfl,h1,h2,h|⟨b,off,cur,rfl,hb,hc⟩⟩:=h
 · exact ⟨a,c,rfl,h1,h2,.inl h⟩
 · exact ⟨_,c,rfl,h1,h2,.inr ⟨b,off,rfl,hlt hb,fun i x hx j u hj=> (hcell hb _).trans (hc i x hx j u hj)⟩⟩
theorem Rd.nil:Rd sz f W (.slice none 0 0) []:=⟨none,0,rfl,Nat.le_refl _,by omega,.inl rfl⟩
theorem Rd.below (h:Rd sz f W v l) (hb:Below W.heap.size W W'):Rd sz f W' v l:=by
 obtain ⟨a,c,rfl,h1,h2,h|⟨b,off,rfl,hl,hc⟩⟩:=h
 · exact ⟨a,c,rfl,h1,h2,.inl h⟩
 · exact ⟨_,c,rfl,h1,h2,.inr ⟨b,off,rfl,Nat.lt_of_lt_of_le hl hb.size,fun i x hx j u hj=> (hb.cell (p:=⟨b,_,none⟩) hl).trans (hc i x hx j u hj)⟩⟩
theorem Rd.shape (h:Rd sz f W v l):∃ a c,v=.slice a l.length c∧l.length≤c∧c≤9223372036854775807:=by
 obtain ⟨a,c,rfl,h1,h2,_⟩:=h
 exact ⟨a,c,rfl,h1,h2⟩
theorem Rd.elem {a:Option Addr} {n c:Nat} (h:Rd sz f W (.slice a n c) l):n=l.length∧n≤c∧c≤9223372036854775807∧
 ∀ (i:Nat) (x:α),l[i]? =some x→∃ b off,a=some ⟨b,off,none⟩∧b<W.heap.size∧∀ W',Below W.heap.size W W'→∀ j u,(f x)[j]? =some u→W'.cell? ⟨b,off + i * sz + j,none⟩=some u:=by
 obtain ⟨a',c',he,h1,h2,h⟩:=h
 injection he with ha hn hc
 subst ha hn hc
 refine ⟨rfl,h1,h2,fun i x hx=> ?_⟩
 rcases h with rfl|⟨b,off,rfl,hl,hcell⟩
 · simp at hx
 · exact ⟨b,off,rfl,hl,fun W' hb' j u hj=> (hb'.cell (p:=⟨b,_,none⟩) hl).trans (hcell i x hx j u hj)⟩
theorem Rd.flat_cells (hf:∀ x,(f x).size=sz) {b off n c:Nat} (h:Rd sz f W (.slice (some ⟨b,off,none⟩) n c) l):∀ j u,(flat f l)[j]? =some u→W.cell? ⟨b,off + j,none⟩=some u:=by
 obtain ⟨a',c',he,h1,h2,h⟩:=h
 injection he with ha hn hc
 subst ha hn hc
 intro j u hj
 rcases h with rfl|⟨b',off',he,hb,hc⟩
 · simp [flat] at hj
 · injection he with he
   injection he with hb1 ho1 _
   subst hb1 ho1
   have hjl:=(List.getElem?_eq_some_iff.1 hj).1
   rw [flat_length hf] at hjl
   have hsz:0<sz:=Nat.pos_of_ne_zero (fun e=> by subst e;simp at hjl)
   have hi:j / sz<l.length:=Nat.div_lt_of_lt_mul (by rw [Nat.mul_comm];exact hjl)
   have hr:j % sz<sz:=Nat.mod_lt _ hsz
   have hx:=List.getElem?_eq_getElem hi
   have hu:(f l[j / sz])[j % sz]? =some ((f l[j / sz])[j % sz]'(by rw [hf];exact hr)):=Array.getElem?_eq_getElem _
   have h3:=flat_get hf l _ _ hx _ _ hu
   have hdm:j / sz * sz + j % sz=j:=by rw [Nat.mul_comm];exact Nat.div_add_mod j sz
   rw [hdm,hj] at h3
   injection h3 with h3
   rw [h3]
   have h4:=hc _ _ hx _ _ hu
   rw [Nat.add_assoc,hdm] at h4
   exact h4
end
set_option maxRecDepth 100000 in
theorem cloneStrR (v:Value) (l:List (ByteArray)) (w:World) (h:Rd 1 strCells w v l) (hn:l.length≤68719476736):
 Calls Tryz.prog 50 #[v] w fun e w'=> ∃ v',e=.returned v'∧KR.Own 9 1 strCells w.heap.size w' v' l∧Below w.heap.size w w':=by
 obtain ⟨a,c,rfl,hnc,hmax⟩:=h.shape
 have q:∀ (w:World) (a:Option Addr) (n c n' c':Nat),(binOp .eql 22 (.slice a n c) (.slice none n' c')).run Tryz.prog w=.ok (.bool a.isNone) w:=fun w a n c n' c'=> Lib.run_eql_slice_nil w _ _ a n c n' c' Tryz.underlying22
 match a,h with
 |none,h=>
  obtain ⟨_,_,he,_,_,hl⟩:=h
  injection he with ha hl' hc'
  obtain rfl:l=[]:=by
   rcases hl with rfl|⟨b,off,hb,_⟩
   · rfl
   · rw [← ha] at hb;cases hb
  clear ha hl' hc' hl
  go_enter Tryz.func50,Tryz.ntmps50
  repeat' (first|go_values|go_skip|go_guarded|(with_reducible refine Way.go ?_)|go_step|go_upon)
  go_ret
  exact ⟨_,rfl,KR.Own.nil _ _ _ _ _,Below.refl _ _⟩
 |some ad,h=>
  have hcells:∀ j u,(flat strCells l)[j]? =some u→(w.alloc (.cells #[] 9)).cell? (ad.add j)=some u:=by
   intro j u hj
   have h':=h
   obtain ⟨_,_,he,_,_,hl⟩:=h
   injection he with ha hl' hc'
   rcases hl with rfl|⟨b,off,hb,hbl,_⟩
   · simp [flat] at hj
   · rw [hb] at ha
     injection ha with ha
     subst ha
     rw [add0,World.cell?_of_block (w:=w) (Lib.alloc_old w _ b hbl)]
     exact Rd.flat_cells szStr h' j u hj
  have hi:(Tryz.prog.info? 9).map (fun i=> (i.zero.map (·.cells.size),i.size,i.bytes))=some (some 1,1,16):=by kernel_rfl
  obtain ⟨i,z,hi0,hz,hzs,hs,hby⟩:∃ i z,Tryz.prog.info? 9=some i∧i.zero=some z∧z.cells.size=1∧i.size=1∧i.bytes=16:=by
   cases hq:Tryz.prog.info? 9 with
   |none=> rw [hq] at hi;cases hi
   |some i=>
    rw [hq] at hi
    simp only [Option.map_some,Option.some.injEq,Prod.mk.injEq] at hi
    obtain ⟨h1,h2,h3⟩:=hi
    cases hz:i.zero with
    |none=> rw [hz] at h1;cases h1
    |some z=>
     rw [hz] at h1
     exact ⟨i,z,rfl,hz,by simpa using h1,h2,h3⟩
  obtain ⟨v',W',hrun,hown',hgrow,_⟩:=run_append_own (P:=Tryz.prog) (w.alloc (.cells #[] 9)) w.heap.size 22 22 9 i z 1 16 Tryz.underlying22 hi0 hz hs hby hzs (by decide) (.slice (some ⟨w.heap.size,0,none⟩) 0 0) 0 []
   (World.ownsRow_made w #[] 0 (Nat.le_refl _) (Nat.zero_le _) (by simp)) ad l.length c (flat strCells l) (flat_length szStr l) hcells
   (by intro u hu;unfold flat at hu;rw [List.mem_flatMap] at hu;obtain ⟨x,_,hx⟩:=hu;simp [strCells] at hx;rcases hx with rfl <;> rfl)
   (by unfold maxLen;omega) (by omega) (by simp)
  have HRUN:=hU hrun
  have hO:KR.Own 9 1 strCells w.heap.size W' v' l:=by simpa [KR.Own] using hown'
  have HO:=hU hO
  have hB:Below w.heap.size w W':=⟨hgrow.os,hgrow.tape,hgrow.output,by have:=hgrow.size;simp at this;omega,fun k hk=> by
   rw [hgrow.block k (by simp;omega) (by simp [Value.ownBlock];omega),Lib.alloc_old w _ k hk]⟩
  have HB:=hU hB
  clear hcells h hrun hown' hgrow hO hB
  go_enter Tryz.func50,Tryz.ntmps50
  repeat' (first|(at_builtin;refine wpList_append_run _ rfl _ _ _ _ rfl _ _ rfl rfl _ _ HRUN.out ?_)|go_values|go_skip|go_guarded|(with_reducible refine Way.go ?_)|go_step|go_upon)
  go_ret
  exact ⟨_,rfl,HO.out,HB.out⟩
set_option maxRecDepth 100000 in
theorem cloneChanR (v:Value) (l:List (Chan)) (w:World) (h:Rd 5 Chan.cells w v l) (hn:l.length≤68719476736):
 Calls Tryz.prog 51 #[v] w fun e w'=> ∃ v',e=.returned v'∧KR.Own 106 5 Chan.cells w.heap.size w' v' l∧Below w.heap.size w w':=by
 obtain ⟨a,c,rfl,hnc,hmax⟩:=h.shape
 have q:∀ (w:World) (a:Option Addr) (n c n' c':Nat),(binOp .eql 23 (.slice a n c) (.slice none n' c')).run Tryz.prog w=.ok (.bool a.isNone) w:=fun w a n c n' c'=> Lib.run_eql_slice_nil w _ _ a n c n' c' Tryz.underlying23
 match a,h with
 |none,h=>
  obtain ⟨_,_,he,_,_,hl⟩:=h
  injection he with ha hl' hc'
  obtain rfl:l=[]:=by
   rcases hl with rfl|⟨b,off,hb,_⟩
   · rfl
   · rw [← ha] at hb;cases hb
  clear ha hl' hc' hl
  go_enter Tryz.func51,Tryz.ntmps51
  repeat' (first|go_values|go_skip|go_guarded|(with_reducible refine Way.go ?_)|go_step|go_upon)
  go_ret
  exact ⟨_,rfl,KR.Own.nil _ _ _ _ _,Below.refl _ _⟩
 |some ad,h=>
  have hcells:∀ j u,(flat Chan.cells l)[j]? =some u→(w.alloc (.cells #[] 106)).cell? (ad.add j)=some u:=by
   intro j u hj
   have h':=h
   obtain ⟨_,_,he,_,_,hl⟩:=h
   injection he with ha hl' hc'
   rcases hl with rfl|⟨b,off,hb,hbl,_⟩
   · simp [flat] at hj
   · rw [hb] at ha
     injection ha with ha
     subst ha
     rw [add0,World.cell?_of_block (w:=w) (Lib.alloc_old w _ b hbl)]
     exact Rd.flat_cells szChan h' j u hj
  have hi:(Tryz.prog.info? 106).map (fun i=> (i.zero.map (·.cells.size),i.size,i.bytes))=some (some 5,5,40):=by kernel_rfl
  obtain ⟨i,z,hi0,hz,hzs,hs,hby⟩:∃ i z,Tryz.prog.info? 106=some i∧i.zero=some z∧z.cells.size=5∧i.size=5∧i.bytes=40:=by
   cases hq:Tryz.prog.info? 106 with
   |none=> rw [hq] at hi;cases hi
   |some i=>
    rw [hq] at hi
    simp only [Option.map_some,Option.some.injEq,Prod.mk.injEq] at hi
    obtain ⟨h1,h2,h3⟩:=hi
    cases hz:i.zero with
    |none=> rw [hz] at h1;cases h1
    |some z=>
     rw [hz] at h1
     exact ⟨i,z,rfl,hz,by simpa using h1,h2,h3⟩
  obtain ⟨v',W',hrun,hown',hgrow,_⟩:=run_append_own (P:=Tryz.prog) (w.alloc (.cells #[] 106)) w.heap.size 23 23 106 i z 5 40 Tryz.underlying23 hi0 hz hs hby hzs (by decide) (.slice (some ⟨w.heap.size,0,none⟩) 0 0) 0 []
   (World.ownsRow_made w #[] 0 (Nat.le_refl _) (Nat.zero_le _) (by simp)) ad l.length c (flat Chan.cells l) (flat_length szChan l) hcells
   (by intro u hu;unfold flat at hu;rw [List.mem_flatMap] at hu;obtain ⟨x,_,hx⟩:=hu;simp [Chan.cells] at hx;rcases hx with rfl|rfl|rfl|rfl|rfl <;> rfl)
   (by unfold maxLen;omega) (by omega) (by simp)
  have HRUN:=hU hrun
  have hO:KR.Own 106 5 Chan.cells w.heap.size W' v' l:=by simpa [KR.Own] using hown'
  have HO:=hU hO
  have hB:Below w.heap.size w W':=⟨hgrow.os,hgrow.tape,hgrow.output,by have:=hgrow.size;simp at this;omega,fun k hk=> by
   rw [hgrow.block k (by simp;omega) (by simp [Value.ownBlock];omega),Lib.alloc_old w _ k hk]⟩
  have HB:=hU hB
  clear hcells h hrun hown' hgrow hO hB
  go_enter Tryz.func51,Tryz.ntmps51
  repeat' (first|(at_builtin;refine wpList_append_run _ rfl _ _ _ _ rfl _ _ rfl rfl _ _ HRUN.out ?_)|go_values|go_skip|go_guarded|(with_reducible refine Way.go ?_)|go_step|go_upon)
  go_ret
  exact ⟨_,rfl,HO.out,HB.out⟩
end Kn
end Go.Proofs.YtalapfkfdhpomaaGreatDoor
namespace Go.Proofs.YtalapfkfdhpomaaGreatDoor
open Go.RowKit KR
namespace Kn
def zbox:BoxV:=⟨none,0,⟨[],0⟩⟩
theorem zbox_ok (W:World):BoxOk W zbox:=Sl.nil
theorem join5 {A B C D E:Type} {G:Prop} {T F:A→B→C→D→E→Prop} (h1:∀ a b c d e,F a b c d e→T a b c d e) (h2:(∀ a b c d e,F a b c d e→T a b c d e)→G):G:=h2 h1
theorem flat_rep:∀ n:Nat,flat boxCells (List.replicate n zbox)=(List.range (n * 2)).map (fun i=> (#[Value.slice none 0 0,.int .i64 0]:Array Value)[i % 2]!)
 |0=> rfl
 |n + 1=> by
  rw [List.replicate_succ',flat_append,flat_rep n,Nat.add_mul,Nat.one_mul,List.range_succ,List.range_succ,List.map_append,List.map_append,List.append_assoc]
  congr 1
  have h0:n * 2 % 2=0:=by omega
  have h1:(n * 2 + 1) % 2=1:=by omega
  simp [flat,boxCells,zbox,h0,h1]
theorem mkBoxes (w:World) (n:Nat) (hn:n≤1000000):∃ v W',(Instr.makeSlice 39 (.int .i64 (n:Int)) (.int .i64 (n:Int))).run Tryz.prog w=.ok v W'∧Sl 84 2 boxCells W' v (List.replicate n zbox)∧Below w.heap.size w W':=by
 have hi:(Tryz.prog.info? 84).map (fun i=> (i.zero.map (·.cells),i.size,i.bytes))=some (some #[.slice none 0 0,.int .i64 0],2,32):=by kernel_rfl
 cases hq:Tryz.prog.info? 84 with
 |none=> simp [hq] at hi
 |some i=>
  rw [hq] at hi
  simp only [Option.map_some,Option.some.injEq,Prod.mk.injEq] at hi
  obtain ⟨hz,hs,hb⟩:=hi
  cases hz0:i.zero with
  |none=> simp [hz0] at hz
  |some z=>
   rw [hz0] at hz
   simp only [Option.map_some,Option.some.injEq] at hz
   obtain ⟨W',hrun,hown,hg⟩:=run_makeSlice_full (P:=Tryz.prog) w w.heap.size 39 84 i z 2 Tryz.underlying39 hq hz0 hs .i64 .i64 n (by omega) (by rw [hb];omega) (by unfold maxLen;omega) (Nat.le_refl _)
   refine ⟨_,W',hrun,?_,⟨hg.os,hg.tape,hg.output,hg.size,fun k hk=> hg.block k hk (by simp)⟩⟩
   have hO:KR.Own 84 2 boxCells w.heap.size W' (.slice (some ⟨w.heap.size,0,none⟩) n n) (List.replicate n zbox):=by
    unfold KR.Own
    rw [List.length_replicate,flat_rep]
    have:(madeCells z.cells (n * 2)).toList=(List.range (n * 2)).map (fun i=> (#[Value.slice none 0 0,.int .i64 0]:Array Value)[i % 2]!):=by
     rw [hz]
     simp [madeCells,Array.toList_map,Array.toList_range]
    rw [← this]
    exact hown
   exact KR.Own.sl szBox hO
section
variable {P:Program} {ops:Array Oper} {o:Oper} {a:Go.Act} {Q:Exit→Go.Act→World→Prop} {W W':World}
theorem wp_make {K:Go.Act→World→Prop} {t:TypeId} {x y:Operand} (hop:o.op=.makeSlice t x y) {vx vy v:Value} (hx:a.eval x=vx) (hy:a.eval y=vy) (hr:(Instr.makeSlice t vx vy).run P W=.ok v W') (hK:K (a.put o.dst v) W'):o.wp P a W K Q:=by
 unfold Oper.wp execOp
 simp only [hop,hx,hy,Sem.run_bind,hr,Result.andThen_ok,Sem.run_pure]
 exact hK
end
end Kn
end Go.Proofs.YtalapfkfdhpomaaGreatDoor
namespace Go.Proofs.YtalapfkfdhpomaaGreatDoor
open Go.RowKit KR RegT3
namespace Kn
section
variable {y0:Lay} {bs:List BoxV} {k:Kern} {w:World} {b:Nat}
theorem stA (hl:LayAt w y0 bs k) (hb:w.heap.size=b):∃ W0,(w.alloc (.cells (kcells y0 k) 43)).alloc (.cells #[.slice none 0 0,.slice none 0 0,.int .i64 0,.slice none 0 0,.slice none 0 0,.int .i64 0,.slice none 0 0,.int .u64 0,.slice none 0 0,.slice none 0 0,.slice none 0 0,.slice none 0 0,.string ⟨#[]⟩,.slice none 0 0,.slice none 0 0,.int .i64 0,.int .i64 0] 43)=W0∧Hid (W0.heap[b]? =some (.cells (kcells y0 k) 43 (0,0)))∧Hid (W0.heap[b + 1]? =some (.cells #[.slice none 0 0,.slice none 0 0,.int .i64 0,.slice none 0 0,.slice none 0 0,.int .i64 0,.slice none 0 0,.int .u64 0,.slice none 0 0,.slice none 0 0,.slice none 0 0,.slice none 0 0,.string ⟨#[]⟩,.slice none 0 0,.slice none 0 0,.int .i64 0,.int .i64 0] 43 (0,0)))∧
 Hid (KR.Kept b w W0)∧Hid (LayAt W0 y0 bs k)∧w.heap.size≤W0.heap.size∧b<W0.heap.size∧b + 1<W0.heap.size:=by
 obtain ⟨q0,q1⟩:=two_new w w.heap.size (.cells (kcells y0 k) 43) (.cells #[.slice none 0 0,.slice none 0 0,.int .i64 0,.slice none 0 0,.slice none 0 0,.int .i64 0,.slice none 0 0,.int .u64 0,.slice none 0 0,.slice none 0 0,.slice none 0 0,.slice none 0 0,.string ⟨#[]⟩,.slice none 0 0,.slice none 0 0,.int .i64 0,.int .i64 0] 43) rfl
 have hb0:Below w.heap.size w ((w.alloc (.cells (kcells y0 k) 43)).alloc (.cells #[.slice none 0 0,.slice none 0 0,.int .i64 0,.slice none 0 0,.slice none 0 0,.int .i64 0,.slice none 0 0,.int .u64 0,.slice none 0 0,.slice none 0 0,.slice none 0 0,.slice none 0 0,.string ⟨#[]⟩,.slice none 0 0,.slice none 0 0,.int .i64 0,.int .i64 0] 43)):=(by repeat with_reducible first|exact Below.refl _ _|assumption|refine Below.to ?_ (by assumption)|refine blN ?_|refine blA ?_|refine blS ?_|refine blD ?_)
 rw [hb] at q0 q1
 exact ⟨_,rfl,hU q0,hU q1,hU (Kept.of hb0),hU (hl.below hb0),hb0.size,hlt q0,hlt q1⟩
theorem stS (hl:LayAt w y0 bs k) (hb:w.heap.size + 1 + 1=b):∃ W0,((w.alloc (.cells (kcells y0 k) 43)).alloc (.cells #[.slice none 0 0,.slice none 0 0,.int .i64 0,.slice none 0 0,.slice none 0 0,.int .i64 0,.slice none 0 0,.int .u64 0,.slice none 0 0,.slice none 0 0,.slice none 0 0,.slice none 0 0,.string ⟨#[]⟩,.slice none 0 0,.slice none 0 0,.int .i64 0,.int .i64 0] 43)).alloc (.cells #[y0.p,y0.t,.int .i64 k.t.left,y0.s,y0.pi,.int .i64 k.hs,y0.h,.int .u64 k.now,y0.im,y0.ou,y0.ins_,y0.bx,.string k.cons,y0.tr,y0.se,.int .i64 k.want,.int .i64 k.gone] 92)=W0∧Hid (W0.heap[b]? =some (.cells (kcells y0 k) 92 (0,0)))∧Hid (W0.heap[w.heap.size + 1]? =some (.cells #[.slice none 0 0,.slice none 0 0,.int .i64 0,.slice none 0 0,.slice none 0 0,.int .i64 0,.slice none 0 0,.int .u64 0,.slice none 0 0,.slice none 0 0,.slice none 0 0,.slice none 0 0,.string ⟨#[]⟩,.slice none 0 0,.slice none 0 0,.int .i64 0,.int .i64 0] 43 (0,0)))∧
 Hid (KR.Kept b w W0)∧Hid (LayAt W0 y0 bs k)∧w.heap.size≤W0.heap.size∧b<W0.heap.size∧w.heap.size + 1<W0.heap.size∧Hid (((w.alloc (.cells (kcells y0 k) 43)).alloc (.cells #[.slice none 0 0,.slice none 0 0,.int .i64 0,.slice none 0 0,.slice none 0 0,.int .i64 0,.slice none 0 0,.int .u64 0,.slice none 0 0,.slice none 0 0,.slice none 0 0,.slice none 0 0,.string ⟨#[]⟩,.slice none 0 0,.slice none 0 0,.int .i64 0,.int .i64 0] 43)).heap[w.heap.size]? =some (.cells (kcells y0 k) 43 (0,0))):=by
 obtain ⟨q0,q1,q2⟩:=three_new w w.heap.size (.cells (kcells y0 k) 43) (.cells #[.slice none 0 0,.slice none 0 0,.int .i64 0,.slice none 0 0,.slice none 0 0,.int .i64 0,.slice none 0 0,.int .u64 0,.slice none 0 0,.slice none 0 0,.slice none 0 0,.slice none 0 0,.string ⟨#[]⟩,.slice none 0 0,.slice none 0 0,.int .i64 0,.int .i64 0] 43) (.cells #[y0.p,y0.t,.int .i64 k.t.left,y0.s,y0.pi,.int .i64 k.hs,y0.h,.int .u64 k.now,y0.im,y0.ou,y0.ins_,y0.bx,.string k.cons,y0.tr,y0.se,.int .i64 k.want,.int .i64 k.gone] 92) rfl
 obtain ⟨r0,r1⟩:=two_new w w.heap.size (.cells (kcells y0 k) 43) (.cells #[.slice none 0 0,.slice none 0 0,.int .i64 0,.slice none 0 0,.slice none 0 0,.int .i64 0,.slice none 0 0,.int .u64 0,.slice none 0 0,.slice none 0 0,.slice none 0 0,.slice none 0 0,.string ⟨#[]⟩,.slice none 0 0,.slice none 0 0,.int .i64 0,.int .i64 0] 43) rfl
 have hb0:Below w.heap.size w (((w.alloc (.cells (kcells y0 k) 43)).alloc (.cells #[.slice none 0 0,.slice none 0 0,.int .i64 0,.slice none 0 0,.slice none 0 0,.int .i64 0,.slice none 0 0,.int .u64 0,.slice none 0 0,.slice none 0 0,.slice none 0 0,.slice none 0 0,.string ⟨#[]⟩,.slice none 0 0,.slice none 0 0,.int .i64 0,.int .i64 0] 43)).alloc (.cells #[y0.p,y0.t,.int .i64 k.t.left,y0.s,y0.pi,.int .i64 k.hs,y0.h,.int .u64 k.now,y0.im,y0.ou,y0.ins_,y0.bx,.string k.cons,y0.tr,y0.se,.int .i64 k.want,.int .i64 k.gone] 92)):=(by repeat with_reducible first|exact Below.refl _ _|assumption|refine Below.to ?_ (by assumption)|refine blN ?_|refine blA ?_|refine blS ?_|refine blD ?_)
 rw [hb] at q2
 exact ⟨_,rfl,hU q2,hU q1,hU (Kept.of hb0),hU (hl.below hb0),hb0.size,hlt q2,hlt q1,hU r0⟩
end
end Kn
end Go.Proofs.YtalapfkfdhpomaaGreatDoor
