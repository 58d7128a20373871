/- slices.Index and Contains at numbers, slices.Grow and Concat of two rows of numbers. Condition: as many as Go can hold. slices.Concat of two rows of numbers; turn.joined. Condition: as many as Go can hold. Package turn: First, Add, Drop, Yield, Spend. Condition: as many as Go can hold. Blocks that were laid one behind the other; results in cells. No condition. Slices over worlds that are written out. No condition. turn.Drop. Condition: as many as Go can hold. -/
import Derived.Test.YthgehdghihbiaaaGreatDoorGSlp
import Derived.Test.YthgehdghihbiaaaGreatDoorGTab
set_option linter.unusedVariables false
set_option maxRecDepth 100000
set_option maxHeartbeats 8000000
set_option linter.unusedSimpArgs false
namespace Go.Proofs.YthgehdghihbiaaaGreatDoor
open Go.RowKit KR
namespace Kn
theorem indexInt (v:Value) (l:List Int) (x:Int) (w:World) (h:SlI w v l):Calls Tryz.prog 143 #[v,.int .i64 x] w (Gives (.int .i64 (idx l (fun y=> x==y))) w):=by
 obtain ⟨a,c,rfl,hnc,hmax⟩:=h.shape
 obtain ⟨_,_,_,hel⟩:=h.elem
 have HEL:=hU hel
 clear hel h
 go_enter Tryz.func143,Tryz.ntmps143
 repeat' (first|go_values|go_skip|go_guarded|(with_reducible refine wg ?_)|go_step|go_upon)
 go_loopw [8] (fun v wr=> Seek w l (fun y=> x==y) v wr) (fun v _=> l.length - (intOf v).toNat)
 case atStart=> exact ⟨0,Nat.zero_le _,rfl,Below.refl _ _,fun j y hj=> absurd hj (Nat.not_lt_zero _)⟩
 case round=>
  obtain ⟨k,hk,rfl,hb,hno⟩:=hrel
  have HB:=hU hb
  have HA:=hU hno
  clear hb hno
  by_cases hlt:k<l.length
  · obtain ⟨y,hy⟩:∃ y,l[k]? =some y:=⟨_,List.getElem?_eq_getElem hlt⟩
    obtain ⟨b,off,rfl,hbl,hcell⟩:=HEL.out k y hy
    have HX:=hU hy
    have hc0:=hcell wr HB.out 0 (.int .i64 y) rfl
    rw [Nat.mul_one,Nat.add_zero] at hc0
    clear hcell hy
    cases hp:x==y
    · repeat' (first|go_values|go_skip|go_guarded|(with_reducible refine wg ?_)|go_step|go_upon)
      exact ⟨⟨k + 1,by omega,by go_num,HB.out,fun j z hj hz=> by
       rcases Nat.lt_succ_iff_lt_or_eq.1 hj with h|rfl
       · exact HA.out j z h hz
       · rw [HX.out] at hz
         injection hz with hz
         subst hz
         exact hp⟩,by simp [intOf];omega⟩
    · repeat' (first|go_values|go_skip|go_guarded|(with_reducible refine wg ?_)|go_step|go_upon)
      go_ret
      exact gives_int (idx_hit HX.out HA.out hp).symm HB.out
  · repeat' (first|go_values|go_skip|go_guarded|(with_reducible refine wg ?_)|go_step|go_upon)
    go_ret
    exact gives_int (idx_miss (fun j y hj hy=> HA.out j y (by omega) hy)).symm HB.out
theorem idx_contains (l:List Int) (x:Int):decide (0≤idx l (fun y=> x==y))=l.contains x:=by
 rcases idx_find (fun y=> x==y) l with ⟨k,hi,hf,hk⟩|⟨hi,hf⟩
 · rw [hi]
   have h1:l[k]? =some l[k]:=List.getElem?_eq_getElem hk
   rw [h1] at hf
   have hx:=List.find?_some hf
   have:x=l[k]:=by simpa using hx
   have hm:x ∈ l:=by rw [this];exact List.getElem_mem hk
   rw [List.contains_iff_mem.2 hm]
   simp
 · rw [hi]
   rw [List.find?_eq_none] at hf
   have hm:¬ x ∈ l:=fun hm=> hf x hm (by simp)
   have:l.contains x=false:=by
    cases h:l.contains x
    · rfl
    · exact absurd (List.contains_iff_mem.1 h) hm
   rw [this]
   decide
theorem containsInt (v:Value) (l:List Int) (x:Int) (w:World) (h:SlI w v l):Calls Tryz.prog 124 #[v,.int .i64 x] w (Gives (.bool (l.contains x)) w):=by
 have HC:=hU (indexInt v l x w h)
 have HD:=hU (idx_contains l x)
 obtain ⟨a,c,rfl,_,_⟩:=h.shape
 clear h
 go_enter Tryz.func124,Tryz.ntmps124
 repeat' (first|(go_at_call 143;refine HC.out.mono ?_;rintro e w1 ⟨rfl,hb1⟩;dsimp only)|go_values|go_skip|go_guarded|(with_reducible refine wg ?_)|go_step|go_upon)
 go_ret
 exact gives_bool HD.out hb1
theorem growInt (n:Nat) (w:World) (hn:n≤34359738368):Calls Tryz.prog 150 #[.slice none 0 0,.int .i64 n] w (fun e w'=> ∃ v',e=.returned v'∧OwnI w.heap.size w' v' []∧Below w.heap.size w w'):=by
 by_cases h0:n=0
 · subst h0
   go_enter Tryz.func150,Tryz.ntmps150
   repeat' (first|go_values|go_skip|go_guarded|(with_reducible refine wg ?_)|go_step|go_upon)
   go_ret
   exact ⟨_,rfl,Own.nil _ _ _ _ _,Below.refl _ _⟩
 · have hi:(Tryz.prog.info? 3).map (fun i=> (i.zero.map (·.cells.size),i.size,i.bytes))=some (some 1,1,8):=by kernel_rfl
   obtain ⟨i0,z,hi0,hz,hzs,hs,hby⟩:=info_cells hi
   have hrz:=Lib.run_append_grow_zeros (P:=Tryz.prog) w 58 3 58 3 i0 z .i64 .i64 Tryz.underlying58 Tryz.underlying3 hi0 hz none 0 0 [] (by simp [Builtin.firstCells]) n (by omega) (by rw [hs];decide) (by omega) (by omega) (by rw [hby];omega) (by rw [hby];exact growslice_fits (by omega) (by omega))
   rw [Nat.zero_add] at hrz
   have hG1:=grownCap_ge w n 0 3
   have hG2:=grownCap_le_maxLen w n 0 3 (by unfold maxLen;omega)
   generalize grownCap w n 0 3=G at hrz hG1 hG2
   have hRs:(([]:List Value).toArray ++ Builtin.zeroCells z.cells n ++ Builtin.zeroCells z.cells (G - n)).size=G * 1:=by
    rw [Array.size_append,Array.size_append,size_zeroCells,size_zeroCells,hzs]
    simp
    omega
   generalize ([]:List Value).toArray ++ Builtin.zeroCells z.cells n ++ Builtin.zeroCells z.cells (G - n)=R at hrz hRs
   have hO:OwnI w.heap.size (w.drew.alloc (.cells R 3)) (.slice (some ⟨w.heap.size,0,none⟩) 0 G) []:=World.ownsRow_made w.drew R G (Nat.le_refl _) hG2 hRs
   have hB:Below w.heap.size w (w.drew.alloc (.cells R 3)):=⟨rfl,rfl,rfl,by simp,fun k hk=> Lib.alloc_old w.drew _ k hk⟩
   generalize w.drew.alloc (.cells R 3)=W1 at hrz hO hB
   have HRZ:=hU hrz
   have HO:=hU hO
   have HB:=hU hB
   have hpos:(0:Int)<n:=by omega
   clear hrz hO hB hi hi0 hz hzs hs hby hRs
   go_enter Tryz.func150,Tryz.ntmps150
   repeat' (first|(at_builtin;refine wpList_append_run _ rfl _ _ _ _ rfl _ _ rfl rfl _ _ HRZ.out ?_)|go_values|go_skip|go_guarded|(with_reducible refine wg ?_)|go_step|go_upon)
   go_ret
   exact ⟨_,rfl,HO.out,HB.out⟩
theorem run_append_none0 {P:Program} {w:World} {base:Nat} {t ty e:TypeId} {i:TypeInfo} {size:Nat} (ht:P.underlying t=some (.slice e)) (hi:P.info? e=some i) {v:Value} {n:Nat} {xs:List Value} (hown:w.ownsRow base e size v n xs) (c:Nat):
 (Builtin.append_ #[t,t] ty #[v,.slice none 0 c]).run P w=.ok v w:=by
 rcases hown.2 with ⟨rfl,rfl⟩|⟨g,cap,cur,rfl,_,_,hnc,_⟩
 · simp [Builtin.append_,run_underlying ht,sizeOf,typeInfo,hi,Builtin.lenOf,Builtin.firstCells]
 · simp [Builtin.append_,run_underlying ht,sizeOf,typeInfo,hi,Builtin.lenOf,Builtin.firstCells,hnc,storeCells]
theorem appendRow (v u:Value) (l m:List Int) (B:Nat) (w:World) (h:OwnI B w v l) (hu:SlI w u m) (hB:B≤w.heap.size) (hn:l.length + m.length≤34359738368):
 ∃ v' W',(Builtin.append_ #[58,58] 58 #[v,u]).run Tryz.prog w=.ok v' W'∧OwnI B W' v' (l ++ m)∧Below B w W':=by
 have hi:(Tryz.prog.info? 3).map (fun i=> (i.zero.map (·.cells.size),i.size,i.bytes))=some (some 1,1,8):=by kernel_rfl
 obtain ⟨i,z,hi0,hz,hzs,hs,hby⟩:=info_cells hi
 obtain ⟨a,c,rfl,hmc,hcm⟩:=hu.shape
 match a,hu with
 |none,hu=>
  obtain ⟨_,_,he,_,_,hl⟩:=hu
  injection he with ha hl' hc'
  obtain rfl:m=[]:=by
   rcases hl with rfl|⟨b,off,cur,hb,_⟩
   · rfl
   · rw [← ha] at hb;cases hb
  exact ⟨v,w,run_append_none0 Tryz.underlying58 hi0 h c,by rw [List.append_nil];exact h,Below.refl _ _⟩
 |some ad,hu=>
  have hcells:∀ j u,(flat intCells m)[j]? =some u→w.cell? (ad.add j)=some u:=by
   intro j u hj
   have hu':=hu
   obtain ⟨_,_,he,_,_,hl⟩:=hu
   injection he with ha hl' hc'
   rcases hl with rfl|⟨b,off,cur,hb,hbl,_⟩
   · simp [flat] at hj
   · rw [hb] at ha
     injection ha with ha
     subst ha
     rw [add0]
     exact Sl.flat_cells szInt hu' j u hj
  obtain ⟨v',W',hrun,hown',hgrow,_⟩:=run_append_own (P:=Tryz.prog) w B 58 58 3 i z 1 8 Tryz.underlying58 hi0 hz hs hby hzs (by decide) v l.length (flat intCells l) h ad m.length c (flat intCells m) (flat_length szInt m) hcells (flat_ones onesInt m) (by unfold maxLen;omega) (by omega) hB
  refine ⟨v',W',hrun,?_,⟨hgrow.os,hgrow.tape,hgrow.output,hgrow.size,fun k hk=> hgrow.block k (by omega) (fun e=> by
   have:=(World.ownsRow.lt h k e.symm).1
   omega)⟩⟩
  show W'.ownsRow _ _ _ _ _ _
  rw [flat_append,List.length_append]
  exact hown'
theorem concatInt (v1 v2:Value) (l1 l2:List Int) (b:Nat) (w:World) (h1:SlI w v1 l1) (h2:SlI w v2 l2) (hh:w.heap[b]? =some (.cells #[v1,v2] 58 (0,0))) (hn1:l1.length≤8589934592) (hn2:l2.length≤8589934592):
 Calls Tryz.prog 144 #[.slice (some ⟨b,0,none⟩) 2 2] w (fun e w'=> ∃ v',e=.returned v'∧OwnI w.heap.size w' v' (l1 ++ l2)∧Below w.heap.size w w'):=by
 have HG:=hU (growInt (l1.length + l2.length) w (by omega))
 have H1:=hU h1
 have H2:=hU h2
 obtain ⟨a1,c1,rfl,_,_⟩:=h1.shape
 obtain ⟨a2,c2,rfl,_,_⟩:=h2.shape
 have HH:=hU hh
 have hbl:=hlt hh
 have k0:w.cell? ⟨b,0,none⟩=some (.slice a1 l1.length c1):=hcell hh 0
 have k1:w.cell? ⟨b,1,none⟩=some (.slice a2 l2.length c2):=hcell hh 1
 have hw1:IntKind.i64.wrap ((l1.length:Int))=(l1.length:Int):=by rw [IntKind.wrap_i64];omega
 have hw2:IntKind.i64.wrap ((l1.length:Int) + (l2.length:Int))=(l1.length:Int) + (l2.length:Int):=by rw [IntKind.wrap_i64];omega
 have hp1:¬ (l1.length:Int)<0:=by omega
 have hp2:¬ (l1.length:Int) + (l2.length:Int)<0:=by omega
 clear h1 h2 hh
 go_enter Tryz.func144,Tryz.ntmps144
 repeat' (first|go_values|go_skip|go_guarded|(with_reducible refine wg ?_)|go_step|go_upon)
 refine wp_loop_rounds 3 ?_
 rw [rounds_succ]
 repeat' (first|go_values|go_skip|go_guarded|(with_reducible refine wg ?_)|go_step|go_upon)
 rw [rounds_succ]
 repeat' (first|go_values|go_skip|go_guarded|(with_reducible refine wg ?_)|go_step|go_upon)
 rw [rounds_succ]
 repeat' (first|go_values|go_skip|go_guarded|(with_reducible refine wg ?_)|go_step|go_upon)
 have hg:=HG.out
 rw [Int.natCast_add] at hg
 refine hg.mono ?_
 rintro e w1 ⟨v0,rfl,hown0,hb1⟩
 have hz1:=hb1.size
 obtain ⟨v3,w3,hrun3,hown3,hb3⟩:=appendRow v0 _ [] l1 w.heap.size w1 hown0 (H1.out.below hb1) hz1 (by simp;omega)
 have hb13:Below w.heap.size w w3:=hb1.trans hb3
 have hz3:=hb13.size
 obtain ⟨v4,w4,hrun4,hown4,hb4⟩:=appendRow v3 _ _ l2 w.heap.size w3 hown3 (H2.out.below hb13) hz3 (by simp;omega)
 have HRUN3:=hU hrun3
 have HRUN4:=hU hrun4
 have HO4:=hU hown4
 have HB4:=hU (hb13.trans hb4)
 have m0:w1.cell? ⟨b,0,none⟩=some (.slice a1 l1.length c1):=(hb1.cell (p:=⟨b,0,none⟩) hbl).trans k0
 have m1:w3.cell? ⟨b,1,none⟩=some (.slice a2 l2.length c2):=(hb13.cell (p:=⟨b,1,none⟩) hbl).trans k1
 obtain ⟨a0,c0,rfl,_,_⟩:=(hown0.sl szInt).shape
 clear hown0 hrun3 hrun4 hown3 hown4 hb3 hb4 hb13 hb1 hg HG
 dsimp only
 repeat' (first|go_values|go_skip|go_guarded|(with_reducible refine wg ?_)|go_step|go_upon)
 refine wp_loop_rounds 3 ?_
 rw [rounds_succ]
 repeat' (first|(at_builtin;refine wpList_append_run _ rfl _ _ _ _ rfl _ _ rfl rfl _ _ HRUN3.out ?_)|go_values|go_skip|go_guarded|(with_reducible refine wg ?_)|go_step|go_upon)
 rw [rounds_succ]
 repeat' (first|(at_builtin;refine wpList_append_run _ rfl _ _ _ _ rfl _ _ rfl rfl _ _ HRUN4.out ?_)|go_values|go_skip|go_guarded|(with_reducible refine wg ?_)|go_step|go_upon)
 rw [rounds_succ]
 repeat' (first|go_values|go_skip|go_guarded|(with_reducible refine wg ?_)|go_step|go_upon)
 go_ret
 exact ⟨_,rfl,HO4.out,HB4.out⟩
theorem joined (v1 v2:Value) (l1 l2:List Int) (b:Nat) (w:World) (h1:SlI w v1 l1) (h2:SlI w v2 l2) (hh:w.heap[b]? =some (.cells #[v1,v2] 58 (0,0))) (hn1:l1.length≤8589934592) (hn2:l2.length≤8589934592):
 Calls Tryz.prog 125 #[.slice (some ⟨b,0,none⟩) 2 2] w (fun e w'=> ∃ v',e=.returned v'∧OwnI w.heap.size w' v' (l1 ++ l2)∧Below w.heap.size w w'):=by
 have HC:=hU (concatInt v1 v2 l1 l2 b w h1 h2 hh hn1 hn2)
 clear h1 h2 hh
 go_enter Tryz.func125,Tryz.ntmps125
 repeat' (first|(go_at_call 144;refine HC.out.mono ?_;rintro e w1 ⟨v1,rfl,hown,hb1⟩;dsimp only)|go_values|go_skip|go_guarded|(with_reducible refine wg ?_)|go_step|go_upon)
 go_ret
 exact ⟨_,rfl,hown,hb1⟩
theorem Own.put {α:Type} {E T:TypeId} {sz B b:Nat} {f:α→Array Value} {W W':World} {v:Value} {l:List α} {cs:Array Value} (h:Own E sz f B W v l) (hp:Put b cs T W W') (hb:b<B):Own E sz f B W' v l:=by
 obtain ⟨h0,h1|⟨g,cap,cur,hv,hB,hg,hc,hm,hs,ht⟩⟩:=h
 · exact ⟨h0,.inl h1⟩
 · exact ⟨h0,.inr ⟨g,cap,cur,hv,hB,(hp.oth g (by omega)).trans hg,hc,hm,hs,ht⟩⟩
theorem ones2 {a:Option Addr} {n c:Nat} {x:Int}:∀ u ∈ (#[.slice a n c,.int .i64 x]:Array Value).toList,u.oneCell'=true:=by
 intro u hu
 simp at hu
 rcases hu with rfl|rfl <;> rfl
theorem two_new (W:World) (n:Nat) (o1 o2:Obj) (hn:W.heap.size=n):((W.alloc o1).alloc o2).heap[n]? =some o1∧((W.alloc o1).alloc o2).heap[n + 1]? =some o2:=by
 subst hn
 refine ⟨hold (hnew W o1),?_⟩
 have h:=hnew (W.alloc o1) o2
 rwa [World.size_alloc] at h
def TurnAt (W:World) (v:Value) (t:Turn):Prop:=∃ u,v=.agg #[u,.int .i64 t.left]∧SlI W u t.l
def GivesT (t:Turn) (w:World) (e:Ending) (w':World):Prop:=∃ v,e=.returned v∧TurnAt w' v t∧Below w.heap.size w w'
theorem Sl.one {W:World} {b:Nat} {x:Int} (h:W.heap[b]? =some (.cells #[.int .i64 x] 3 (0,0))):SlI W (.slice (some ⟨b,0,none⟩) 1 1) [x]:=
 ⟨_,_,rfl,Nat.le_refl _,by decide,.inr ⟨b,0,_,rfl,h,fun i y hy j u hj=> by
   match i,hy with
   |0,hy=>
    injection hy with hy
    subst hy
    match j,hj with
    |0,hj=> simpa [intCells] using hj
    |j + 1,hj=> simp [intCells] at hj
   |i + 1,hy=> simp at hy⟩⟩
theorem Sl.nils {W:World} {a:Option Addr} {c:Nat} (h:c≤9223372036854775807):SlI W (.slice a 0 c) []:=Sl.empty h
theorem TAdd (v:Value) (t:Turn) (pid:Int) (w:World) (h:TurnAt w v t) (hn:t.l.length≤8589934592):Calls Tryz.prog 106 #[v,.int .i64 pid] w (GivesT (tadd t pid) w):=by
 obtain ⟨l,left⟩:=t
 obtain ⟨u,rfl,hs⟩:=h
 have HC:=hU (fun W hb=> containsInt u l pid W (hs.below hb))
 have HS:=hU hs
 obtain ⟨a,c,rfl,_,_⟩:=hs.shape
 dsimp only at *
 clear hs
 cases hc:l.contains pid
 · by_cases hl:l=[]
   · subst hl
     have hta:tadd ⟨[],left⟩ pid=⟨[] ++ [pid],5⟩:=by rw [tadd,if_neg (by rw [hc];simp)];rfl
     rw [hta]
     rw [hc] at HC
     clear hta hc
     go_enter Tryz.func106,Tryz.ntmps106
     repeat' (first|go_values|go_skip|go_guarded|(with_reducible refine wg ?_)|go_step|go_upon)
     refine (HC.out _ bel).mono ?_
     rintro e w1 ⟨rfl,hb1⟩
     obtain ⟨hc1,hf1,hz1⟩:=bfacts hb1
     simp at hz1
     have y0:w.heap.size<w1.heap.size:=by omega
     have y1:w.heap.size + 1<w1.heap.size:=by omega
     have HB1:Hid (Below w.heap.size w w1):=hU bel
     have HS1:=hU (HS.out.below HB1.out)
     obtain ⟨q0,q1⟩:=two_new w w.heap.size (.cells #[.slice a 0 c,.int .i64 left] 60) (.cells #[.slice none 0 0,.int .i64 0] 60) rfl
     have HB0:Hid _:=hU (And.intro ((hb1.block w.heap.size (by simp;omega)).trans q0) ((hb1.block (w.heap.size + 1) (by simp)).trans q1))
     clear HC
     dsimp only
     repeat' (first|go_values|go_skip|go_guarded|(with_reducible refine wg ?_)|go_step|go_upon)
     obtain ⟨n1,n2⟩:=two_new (w1.setCell ⟨w.heap.size,1,none⟩ (.int .i64 5)) w1.heap.size (.cells #[.int .i64 pid] 3) (.cells #[.slice a 0 c,.slice (some ⟨w1.heap.size,0,none⟩) 1 1] 58) (World.size_setCell _ _ _)
     have hb0:=HB0.out
     have HT1:(((w1.setCell ⟨w.heap.size,1,none⟩ (.int .i64 5)).alloc (.cells #[.int .i64 pid] 3)).alloc (.cells #[.slice a 0 c,.slice (some ⟨w1.heap.size,0,none⟩) 1 1] 58)).heap[w.heap.size]? =some (.cells #[.slice a 0 c,.int .i64 5] 60 (0,0)):=hold (hold (by simp [World.setCell,Array.getElem?_modify,hb0.1]))
     have HR1:(((w1.setCell ⟨w.heap.size,1,none⟩ (.int .i64 5)).alloc (.cells #[.int .i64 pid] 3)).alloc (.cells #[.slice a 0 c,.slice (some ⟨w1.heap.size,0,none⟩) 1 1] 58)).heap[w.heap.size + 1]? =some (.cells #[.slice none 0 0,.int .i64 0] 60 (0,0)):=hold (hold (by simp [World.setCell,Array.getElem?_modify,hb0.2]))
     have HBX:Below w.heap.size w (((w1.setCell ⟨w.heap.size,1,none⟩ (.int .i64 5)).alloc (.cells #[.int .i64 pid] 3)).alloc (.cells #[.slice a 0 c,.slice (some ⟨w1.heap.size,0,none⟩) 1 1] 58)):=(((HB1.out.setCell (p:=⟨w.heap.size,1,none⟩) (Nat.le_refl _) _).alloc (by rw [World.size_setCell];omega) _).alloc (by rw [World.size_alloc,World.size_setCell];omega) _)
     refine (joined (.slice a 0 c) (.slice (some ⟨w1.heap.size,0,none⟩) 1 1) [] [pid] (w1.heap.size + 1) _ (Sl.nils (by assumption)) (Sl.one n1) n2 (by simp) (by simp)).mono ?_
     rintro e w2 ⟨v2,rfl,hown,hb2⟩
     have hz2:=hb2.size
     simp at hz2
     have HO:=hU hown
     obtain ⟨a2,c2,hv2,_,_⟩:=(hown.sl szInt).shape
     generalize List.length _=n2 at hv2
     subst hv2
     have HT:=hU ((hb2.block w.heap.size (by simp;omega)).trans HT1)
     have HR:=hU ((hb2.block (w.heap.size + 1) (by simp;omega)).trans HR1)
     have HB2:=hU (Below.to HBX hb2)
     clear hown hb2 HT1 HR1 HBX
     dsimp only
     repeat' (first
      |(refine wpList_store (v:=.slice a2 n2 c2) (off:=0) rfl rfl rfl rfl oneSInt.size HT.out rfl (by simp) (by intro u hu;simp [Value.cells] at hu;subst hu;rfl) rfl ?_;intro W3 hp3;(have HT3:=hU hp3.at_);(have HR3:=hU ((hp3.oth (w.heap.size + 1) (by omega)).trans HR.out));(have HO3:=hU (Own.put HO.out hp3 (by simp;omega)));(have HB3:=hU (Below.put HB2.out hp3 (Nat.le_refl _)));clear hp3)
      |(refine wpList_load rfl rfl rfl (run_load_whole aggTurn HT3.out rfl) ?_)
      |(refine wpList_store (v:=.agg #[.slice a2 n2 c2,.int .i64 5]) (off:=0) rfl rfl rfl rfl aggTurn.size HR3.out rfl (by simp) ones2 rfl ?_;intro W4 hp4;(have HR4:=hU hp4.at_);(have HO4:=hU (Own.put HO3.out hp4 (by simp;omega)));(have HB4:=hU (Below.put HB3.out hp4 (by omega)));clear hp4)
      |go_values|go_skip|go_guarded|(with_reducible refine wg ?_)|go_step|go_upon)
     (try simp only [Exit.inBlock,Exit.then]);refine bodyPost_ret (res_cell Tryz.results106 aggTurn rfl HR4.out rfl) rfl ?_
     exact ⟨_,rfl,⟨_,rfl,HO4.out.sl szInt⟩,HB4.out⟩
   · have hlen:¬ (l.length:Int)=0:=by simp [hl]
     have hlb:((l.length:Int)==0)=false:=by simp [hl]
     have hta:tadd ⟨l,left⟩ pid=⟨l ++ [pid],left⟩:=by rw [tadd,if_neg (by rw [hc];simp)];simp [hl]
     rw [hta]
     rw [hc] at HC
     clear hta hc
     go_enter Tryz.func106,Tryz.ntmps106
     repeat' (first|go_values|go_skip|go_guarded|(with_reducible refine wg ?_)|go_step|go_upon)
     refine (HC.out _ bel).mono ?_
     rintro e w1 ⟨rfl,hb1⟩
     obtain ⟨hc1,hf1,hz1⟩:=bfacts hb1
     simp at hz1
     have y0:w.heap.size<w1.heap.size:=by omega
     have y1:w.heap.size + 1<w1.heap.size:=by omega
     have HB1:Hid (Below w.heap.size w w1):=hU bel
     have HS1:=hU (HS.out.below HB1.out)
     obtain ⟨q0,q1⟩:=two_new w w.heap.size (.cells #[.slice a l.length c,.int .i64 left] 60) (.cells #[.slice none 0 0,.int .i64 0] 60) rfl
     have HB0:Hid _:=hU (And.intro ((hb1.block w.heap.size (by simp;omega)).trans q0) ((hb1.block (w.heap.size + 1) (by simp)).trans q1))
     clear HC
     dsimp only
     repeat' (first|go_values|go_skip|go_guarded|(with_reducible refine wg ?_)|go_step|go_upon)
     obtain ⟨n1,n2⟩:=two_new w1 w1.heap.size (.cells #[.int .i64 pid] 3) (.cells #[.slice a l.length c,.slice (some ⟨w1.heap.size,0,none⟩) 1 1] 58) rfl
     have HT1:=hold (o:=.cells #[.slice a l.length c,.slice (some ⟨w1.heap.size,0,none⟩) 1 1] 58) (hold (o:=.cells #[.int .i64 pid] 3) HB0.out.1)
     have HR1:=hold (o:=.cells #[.slice a l.length c,.slice (some ⟨w1.heap.size,0,none⟩) 1 1] 58) (hold (o:=.cells #[.int .i64 pid] 3) HB0.out.2)
     have HBX:Below w.heap.size w ((w1.alloc (.cells #[.int .i64 pid] 3)).alloc (.cells #[.slice a l.length c,.slice (some ⟨w1.heap.size,0,none⟩) 1 1] 58)):=(HB1.out.alloc (by omega) _).alloc (by rw [World.size_alloc];omega) _
     refine (joined (.slice a l.length c) (.slice (some ⟨w1.heap.size,0,none⟩) 1 1) l [pid] (w1.heap.size + 1) _ (HS1.out.below (((Below.refl w1.heap.size w1).alloc (Nat.le_refl _) _).alloc (by rw [World.size_alloc];omega) _)) (Sl.one n1) n2 hn (by simp)).mono ?_
     rintro e w2 ⟨v2,rfl,hown,hb2⟩
     have hz2:=hb2.size
     simp at hz2
     have HO:=hU hown
     obtain ⟨a2,c2,hv2,_,_⟩:=(hown.sl szInt).shape
     generalize List.length _=n2 at hv2
     subst hv2
     have HT:=hU ((hb2.block w.heap.size (by simp;omega)).trans HT1)
     have HR:=hU ((hb2.block (w.heap.size + 1) (by simp;omega)).trans HR1)
     have HB2:=hU (Below.to HBX hb2)
     clear hown hb2 HT1 HR1 HBX
     dsimp only
     repeat' (first
      |(refine wpList_store (v:=.slice a2 n2 c2) (off:=0) rfl rfl rfl rfl oneSInt.size HT.out rfl (by simp) (by intro u hu;simp [Value.cells] at hu;subst hu;rfl) rfl ?_;intro W3 hp3;(have HT3:=hU hp3.at_);(have HR3:=hU ((hp3.oth (w.heap.size + 1) (by omega)).trans HR.out));(have HO3:=hU (Own.put HO.out hp3 (by simp;omega)));(have HB3:=hU (Below.put HB2.out hp3 (Nat.le_refl _)));clear hp3)
      |(refine wpList_load rfl rfl rfl (run_load_whole aggTurn HT3.out rfl) ?_)
      |(refine wpList_store (v:=.agg #[.slice a2 n2 c2,.int .i64 left]) (off:=0) rfl rfl rfl rfl aggTurn.size HR3.out rfl (by simp) ones2 rfl ?_;intro W4 hp4;(have HR4:=hU hp4.at_);(have HO4:=hU (Own.put HO3.out hp4 (by simp;omega)));(have HB4:=hU (Below.put HB3.out hp4 (by omega)));clear hp4)
      |go_values|go_skip|go_guarded|(with_reducible refine wg ?_)|go_step|go_upon)
     (try simp only [Exit.inBlock,Exit.then]);refine bodyPost_ret (res_cell Tryz.results106 aggTurn rfl HR4.out rfl) rfl ?_
     exact ⟨_,rfl,⟨_,rfl,HO4.out.sl szInt⟩,HB4.out⟩
 · have hta:tadd ⟨l,left⟩ pid=⟨l,left⟩:=by rw [tadd,if_pos hc]
   rw [hta]
   rw [hc] at HC
   clear hta hc
   go_enter Tryz.func106,Tryz.ntmps106
   repeat' (first|go_values|go_skip|go_guarded|(with_reducible refine wg ?_)|go_step|go_upon)
   refine (HC.out _ bel).mono ?_
   rintro e w1 ⟨rfl,hb1⟩
   obtain ⟨hc1,hf1,hz1⟩:=bfacts hb1
   simp at hz1
   have y0:w.heap.size<w1.heap.size:=by omega
   have y1:w.heap.size + 1<w1.heap.size:=by omega
   dsimp only
   obtain ⟨q0,q1⟩:=two_new w w.heap.size (.cells #[.slice a l.length c,.int .i64 left] 60) (.cells #[.slice none 0 0,.int .i64 0] 60) rfl
   have HT:=hU ((hb1.block w.heap.size (by simp;omega)).trans q0)
   have HR:=hU ((hb1.block (w.heap.size + 1) (by simp)).trans q1)
   have HB1:Hid (Below w.heap.size w w1):=hU bel
   have HS1:=hU (HS.out.below HB1.out)
   clear q0 q1
   repeat' (first
    |(refine wpList_load rfl rfl rfl (run_load_whole aggTurn HT.out rfl) ?_)
    |(refine wpList_store (v:=.agg #[.slice a l.length c,.int .i64 left]) (off:=0) rfl rfl rfl rfl aggTurn.size HR.out rfl (by simp) ones2 rfl ?_;intro W4 hp4;(have HR4:=hU hp4.at_);(have HS4:=hU (Sl.put HS1.out HR.out hp4 (by decide)));(have HB4:=hU (Below.put HB1.out hp4 (by omega)));clear hp4)
    |go_values|go_skip|go_guarded|(with_reducible refine wg ?_)|go_step|go_upon)
   (try simp only [Exit.inBlock,Exit.then]);refine bodyPost_ret (res_cell Tryz.results106 aggTurn rfl HR4.out rfl) rfl ?_
   exact ⟨_,rfl,⟨_,rfl,HS4.out⟩,HB4.out⟩
end Kn
end Go.Proofs.YthgehdghihbiaaaGreatDoor
namespace Go.Proofs.YthgehdghihbiaaaGreatDoor
open Go.RowKit
namespace KR
theorem three_new (W:World) (n:Nat) (o1 o2 o3:Obj) (hn:W.heap.size=n):(((W.alloc o1).alloc o2).alloc o3).heap[n]? =some o1∧(((W.alloc o1).alloc o2).alloc o3).heap[n + 1]? =some o2∧(((W.alloc o1).alloc o2).alloc o3).heap[n + 1 + 1]? =some o3:=by
 obtain ⟨h1,h2⟩:=Kn.two_new W n o1 o2 hn
 have h3:=hnew ((W.alloc o1).alloc o2) o3
 simp only [World.size_alloc,hn] at h3
 exact ⟨hold h1,hold h2,h3⟩
variable {α:Type}
theorem heap_set {W:World} {b k o:Nat} {v:Value} (hk:k ≠ b):(W.setCell ⟨b,o,none⟩ v).heap[k]? =W.heap[k]? :=Below.heap_setCell W _ v k hk
theorem Sl.set {E T:TypeId} {sz b o:Nat} {f:α→Array Value} {W:World} {v u:Value} {l:List α} {cs:Array Value} (h:Sl E sz f W v l) (hh:W.heap[b]? =some (.cells cs T (0,0))) (hT:E ≠ T):Sl E sz f (W.setCell ⟨b,o,none⟩ u) v l:=
 h.stay (fun k c hc=> heap_set (ne_of_types hc hh hT))
theorem Sl.alloc {E:TypeId} {sz:Nat} {f:α→Array Value} {W:World} {v:Value} {l:List α} (h:Sl E sz f W v l) (o:Obj):Sl E sz f (W.alloc o) v l:=h.below ((Below.refl _ _).alloc (Nat.le_refl _) _)
theorem Sl.drew {E:TypeId} {sz:Nat} {f:α→Array Value} {W:World} {v:Value} {l:List α} (h:Sl E sz f W v l):Sl E sz f W.drew v l:=h.stay (fun _ _ _=> rfl)
theorem Sl.clip {E:TypeId} {sz:Nat} {f:α→Array Value} {W:World} {a:Option Addr} {n c:Nat} {l:List α} (h:Sl E sz f W (.slice a n c) l):Sl E sz f W (.slice a n n) l:=by
 obtain ⟨a',c',he,h1,h2,h⟩:=h
 injection he with ha hn hc
 subst ha hn hc
 exact ⟨_,_,rfl,Nat.le_refl _,Nat.le_trans h1 h2,h⟩
end KR
end Go.Proofs.YthgehdghihbiaaaGreatDoor
namespace Go.Proofs.YthgehdghihbiaaaGreatDoor
open Go.RowKit KR
namespace Kn
theorem three_new (W:World) (n:Nat) (o1 o2 o3:Obj) (hn:W.heap.size=n):(((W.alloc o1).alloc o2).alloc o3).heap[n]? =some o1∧(((W.alloc o1).alloc o2).alloc o3).heap[n + 1]? =some o2∧(((W.alloc o1).alloc o2).alloc o3).heap[n + 1 + 1]? =some o3:=by
 obtain ⟨h1,h2⟩:=two_new W n o1 o2 hn
 refine ⟨hold h1,hold h2,?_⟩
 have h:=hnew ((W.alloc o1).alloc o2) o3
 rwa [World.size_alloc,World.size_alloc,hn] at h
end Kn
end Go.Proofs.YthgehdghihbiaaaGreatDoor
