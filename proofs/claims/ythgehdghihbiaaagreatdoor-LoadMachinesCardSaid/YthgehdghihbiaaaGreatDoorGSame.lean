/- Rows that are the same: the references say so. Conditions: as many as Go can hold. Guests that are the same: the reference says so. Conditions: as many as Go can hold. -/
import Derived.Test.YthgehdghihbiaaaGreatDoorKSameEv
set_option linter.unusedVariables false
set_option maxRecDepth 100000
set_option maxHeartbeats 8000000
set_option linter.unusedSimpArgs false
namespace Go.Proofs.YthgehdghihbiaaaGreatDoor
open Go.RowKit KR RegT3
namespace Kn
theorem allSame:EqSt 68 220 26∧EqSt 70 230 2∧EqSt 71 232 3∧EqSt 99 256 3∧EqSt 74 237 2∧EqSt 75 101 5:=by
 refine ⟨?_,?_,?_,?_,?_,?_⟩
 all_goals
  intro w a1 a2 n c1 c2 hn he
  have HE:=hU he
  clear he
  go_in
  repeat' (first|go_values|go_skip|go_guarded|(with_reducible refine wg ?_)|go_step|go_upon)
  go_loopw [5] (fun iv wr=> SameR w n iv wr) (fun iv _=> n - (intOf iv).toNat)
  case atStart=> exact ⟨0,Nat.zero_le _,rfl,Below.refl _ _⟩
  case round=>
   obtain ⟨k,hk,rfl,hb⟩:=hrel
   have HB:=hU hb
   clear hb
   by_cases hkl:k<n
   · obtain ⟨g1,o1,g2,o2,cs,S,rfl,rfl,hS,l1,l2,hq⟩:=HE.out k hkl
     have HS:=hU hS
     have H1:=hU l1
     have H2:=hU l2
     have hj1:(k:Int)<(n:Int):=by omega
     have hj0:(0:Int)≤(k:Int):=by omega
     clear hS l1 l2
     repeat' (first|go_values|go_skip|go_guarded|(with_reducible refine wg ?_)|go_step|go_upon)
     refine wp_region_noPanic ?_
     refine go0 (S:=S) [] (HS.out _ HB.out.drew) fun hS=> ?_
     refine tp 0 ?_;try simp only [acts]
     refine tp 1 ?_;try simp only [acts]
     refine tp 2 ?_;try simp only [acts]
     refine tv 3 (.agg cs) (fun W hSW=> run_val_load rfl rfl (H1.out W hSW)) ?_
     (try simp only [acts])
     refine tp 4 ?_;try simp only [acts]
     refine tp 5 ?_;try simp only [acts]
     refine tp 6 ?_;try simp only [acts]
     refine tv 7 (.agg cs) (fun W hSW=> run_val_load rfl rfl (H2.out W hSW)) ?_
     (try simp only [acts])
     refine tp 8 ?_;try simp only [acts]
     refine doneL (by kernel_rfl) (NoPanic.normal ?_) _
     clear hS
     repeat' (first|go_values|go_skip|go_guarded|(with_reducible refine wg ?_)|go_step|go_upon)
     exact ⟨⟨k + 1,by omega,by go_num,HB.out.drew⟩,by simp [intOf];omega⟩
   · repeat' (first|go_values|go_skip|go_guarded|(with_reducible refine wg ?_)|go_step|go_upon)
     go_ret
     exact gives_of rfl HB.out
theorem SameProc (u v:Value) (l:List Proc) (w:World) (h1:Sl 220 26 Proc.cells w u l) (h2:Sl 220 26 Proc.cells w v l) (hn:l.length≤9223372036854775807):Calls Tryz.prog 68 #[u,v] w (Gives (.bool true) w):=eq_of allSame.1 aggProc szProc neqProc h1 h2
theorem SameAlarm (u v:Value) (l:List Alarm) (w:World) (h1:Sl 230 2 Alarm.cells w u l) (h2:Sl 230 2 Alarm.cells w v l) (hn:l.length≤9223372036854775807):Calls Tryz.prog 70 #[u,v] w (Gives (.bool true) w):=eq_of allSame.2.1 aggAlarm szAlarm neqAlarm h1 h2
theorem SamePipe (u v:Value) (l:List Pipe) (w:World) (h1:Sl 232 3 Pipe.cells w u l) (h2:Sl 232 3 Pipe.cells w v l) (hn:l.length≤9223372036854775807):Calls Tryz.prog 71 #[u,v] w (Gives (.bool true) w):=eq_of allSame.2.2.1 aggPipe szPipe neqPipe h1 h2
theorem SameSpan (u v:Value) (l:List Span) (w:World) (h1:Sl 256 3 Span.cells w u l) (h2:Sl 256 3 Span.cells w v l) (hn:l.length≤9223372036854775807):Calls Tryz.prog 99 #[u,v] w (Gives (.bool true) w):=eq_of allSame.2.2.2.1 aggSpan szSpan neqSpan h1 h2
theorem SameOut (u v:Value) (l:List Out) (w:World) (h1:Sl 237 2 Out.cells w u l) (h2:Sl 237 2 Out.cells w v l) (hn:l.length≤9223372036854775807):Calls Tryz.prog 74 #[u,v] w (Gives (.bool true) w):=eq_of allSame.2.2.2.2.1 aggOut szOut neqOut h1 h2
theorem SameChan (u v:Value) (l:List Chan) (w:World) (h1:Sl 101 5 Chan.cells w u l) (h2:Sl 101 5 Chan.cells w v l) (hn:l.length≤9223372036854775807):Calls Tryz.prog 75 #[u,v] w (Gives (.bool true) w):=eq_of allSame.2.2.2.2.2 aggChan szChan neqChan h1 h2
theorem SameInt (u v:Value) (l:List Int) (w:World) (h1:Sl 3 1 intCells w u l) (h2:Sl 3 1 intCells w v l) (hn:l.length≤9223372036854775807):Calls Tryz.prog 98 #[u,v] w (Gives (.bool true) w):=by
 obtain ⟨a1,c1,rfl,_,_⟩:=h1.shape
 obtain ⟨a2,c2,rfl,_,_⟩:=h2.shape
 have H1:=hU h1.elem.2.2.2
 have H2:=hU h2.elem.2.2.2
 clear h1 h2
 go_enter Tryz.func98,Tryz.ntmps98
 repeat' (first|go_values|go_skip|go_guarded|(with_reducible refine wg ?_)|go_step|go_upon)
 go_loopw [5] (fun iv wr=> SameR w l.length iv wr) (fun iv _=> l.length - (intOf iv).toNat)
 case atStart=> exact ⟨0,Nat.zero_le _,rfl,Below.refl _ _⟩
 case round=>
  obtain ⟨k,hk,rfl,hb⟩:=hrel
  by_cases hkl:k<l.length
  · obtain ⟨x,hx⟩:∃ x,l[k]? =some x:=⟨_,List.getElem?_eq_getElem hkl⟩
    obtain ⟨g1,o1,rfl,_,hc1⟩:=H1.out k x hx
    obtain ⟨g2,o2,rfl,_,hc2⟩:=H2.out k x hx
    have HC1:=hU hc1
    have HC2:=hU hc2
    have HB:=hU hb
    have hj1:(k:Int)<(l.length:Int):=by omega
    have hj0:(0:Int)≤(k:Int):=by omega
    clear hc1 hc2 hb hx H1 H2
    repeat' (first|go_values|go_skip|go_guarded|(with_reducible refine wg ?_)|go_step|go_upon)
    refine wp_region_noPanic ?_
    refine go0 (S:=fun W=> (W.cell? ⟨g1,o1 + k,none⟩=some (.int .i64 x))∧(W.cell? ⟨g2,o2 + k,none⟩=some (.int .i64 x))) [] (⟨by simpa using HC1.out _ HB.out.drew 0 (.int .i64 x) rfl,by simpa using HC2.out _ HB.out.drew 0 (.int .i64 x) rfl⟩) fun hS=> ?_
    refine tp 0 ?_;try simp only [acts]
    refine tp 1 ?_;try simp only [acts]
    refine tp 2 ?_;try simp only [acts]
    refine tl 3 ?_;try simp only [acts]
    refine tp 4 ?_;try simp only [acts]
    refine tp 5 ?_;try simp only [acts]
    refine tp 6 ?_;try simp only [acts]
    refine tl 7 ?_;try simp only [acts]
    refine tp 8 ?_;try simp only [acts]
    refine doneL (by kernel_rfl) (NoPanic.normal ?_) _
    clear hS
    repeat' (first|go_values|go_skip|go_guarded|(with_reducible refine wg ?_)|go_step|go_upon)
    exact ⟨⟨k + 1,by omega,by go_num,HB.out.drew⟩,by simp [intOf];omega⟩
  · have HB:=hU hb
    clear hb
    repeat' (first|go_values|go_skip|go_guarded|(with_reducible refine wg ?_)|go_step|go_upon)
    go_ret
    exact gives_of rfl HB.out
theorem SameTurn (u v:Value) (t:Turn) (w:World) (h1:SlI w u t.l) (h2:SlI w v t.l) (hn:t.l.length≤9223372036854775807):Calls Tryz.prog 69 #[.agg #[u,.int .i64 t.left],.agg #[v,.int .i64 t.left]] w (Gives (.bool true) w):=by
 obtain ⟨q0,q1⟩:=two_new w w.heap.size (.cells #[u,.int .i64 t.left] 60) (.cells #[v,.int .i64 t.left] 60) rfl
 have hb0:Below w.heap.size w ((w.alloc (.cells #[u,.int .i64 t.left] 60)).alloc (.cells #[v,.int .i64 t.left] 60)):=bel
 obtain ⟨W0,hW0⟩:=exW ((w.alloc (.cells #[u,.int .i64 t.left] 60)).alloc (.cells #[v,.int .i64 t.left] 60))
 rw [hW0] at q0 q1 hb0
 have HC:=hU (SameInt u v t.l W0 (h1.below hb0) (h2.below hb0) hn)
 have HB:=hU hb0
 have H0:=hU q0
 have H1:=hU q1
 have a0:=hcell q0 0
 have b0:=hcell q1 0
 clear q0 q1 hb0 h1 h2
 go_enter Tryz.func69,Tryz.ntmps69
 repeat' (first|(rw [hW0];clear hW0)|go_values|go_skip|go_guarded|(with_reducible refine wg ?_)|go_step|go_upon)
 refine HC.out.mono ?_
 rintro er W1 ⟨rfl,hb⟩
 have a1:=hcell (nB hb H0).out 1
 have b1:=hcell (nB hb H1).out 1
 have HB1:=hU (HB.out.trans (hb.mono HB.out.size))
 clear a0 b0 hb
 dsimp only
 repeat' (first|go_values|go_skip|go_guarded|(with_reducible refine wg ?_)|go_step|go_upon)
 go_ret
 exact gives_of (by simp) HB1.out
theorem SameHeap (u v:Value) (l:List Span) (n:Int) (w:World) (h1:SlS w u l) (h2:SlS w v l) (hn:l.length≤9223372036854775807):Calls Tryz.prog 72 #[.agg #[.int .i64 n,u],.agg #[.int .i64 n,v]] w (Gives (.bool true) w):=by
 obtain ⟨q0,q1⟩:=two_new w w.heap.size (.cells #[.int .i64 n,u] 65) (.cells #[.int .i64 n,v] 65) rfl
 have hb0:Below w.heap.size w ((w.alloc (.cells #[.int .i64 n,u] 65)).alloc (.cells #[.int .i64 n,v] 65)):=bel
 obtain ⟨W0,hW0⟩:=exW ((w.alloc (.cells #[.int .i64 n,u] 65)).alloc (.cells #[.int .i64 n,v] 65))
 rw [hW0] at q0 q1 hb0
 have HC:=hU (SameSpan u v l W0 (h1.below hb0) (h2.below hb0) hn)
 have HB:=hU hb0
 have H0:=hU q0
 have H1:=hU q1
 have a0:=hcell q0 1
 have b0:=hcell q1 1
 clear q0 q1 hb0 h1 h2
 go_enter Tryz.func72,Tryz.ntmps72
 repeat' (first|(rw [hW0];clear hW0)|go_values|go_skip|go_guarded|(with_reducible refine wg ?_)|go_step|go_upon)
 refine HC.out.mono ?_
 rintro er W1 ⟨rfl,hb⟩
 have a1:=hcell (nB hb H0).out 0
 have b1:=hcell (nB hb H1).out 0
 have HB1:=hU (HB.out.trans (hb.mono HB.out.size))
 clear a0 b0 hb
 dsimp only
 repeat' (first|go_values|go_skip|go_guarded|(with_reducible refine wg ?_)|go_step|go_upon)
 go_ret
 exact gives_of (by simp) HB1.out
def SameR2 (w:World) (ca cb:Array Value) (T:TypeId) (n:Nat) (iv:Value) (wr:World):Prop:=∃ k:Nat,k≤n∧iv=.int .i64 k∧wr.heap[w.heap.size]? =some (.cells ca T (0,0))∧wr.heap[w.heap.size + 1]? =some (.cells cb T (0,0))∧Below w.heap.size w wr
theorem SameBox (a1 a2:Option Addr) (c1 c2:Nat) (l:List Msg) (lost:Int) (w:World) (h1:BoxOk w ⟨a1,c1,⟨l,lost⟩⟩) (h2:BoxOk w ⟨a2,c2,⟨l,lost⟩⟩) (hn:l.length≤9223372036854775807):Calls Tryz.prog 76 #[.agg #[.slice a1 l.length c1,.int .i64 lost],.agg #[.slice a2 l.length c2,.int .i64 lost]] w (Gives (.bool true) w):=by
 unfold BoxOk at h1 h2
 dsimp only at h1 h2
 have H1:=hU h1.elem.2.2.2
 have H2:=hU h2.elem.2.2.2
 clear h1 h2
 obtain ⟨q0,q1⟩:=two_new w w.heap.size (.cells #[.slice a1 l.length c1,.int .i64 lost] 178) (.cells #[.slice a2 l.length c2,.int .i64 lost] 178) rfl
 have hb0:Below w.heap.size w ((w.alloc (.cells #[.slice a1 l.length c1,.int .i64 lost] 178)).alloc (.cells #[.slice a2 l.length c2,.int .i64 lost] 178)):=bel
 obtain ⟨W0,hW0⟩:=exW ((w.alloc (.cells #[.slice a1 l.length c1,.int .i64 lost] 178)).alloc (.cells #[.slice a2 l.length c2,.int .i64 lost] 178))
 rw [hW0] at q0 q1 hb0
 have x0:=hcell q0 0
 have y0:=hcell q1 0
 have x1:=hcell q0 1
 have y1:=hcell q1 1
 have HB:=hU hb0
 have Q0:=hU q0
 have Q1:=hU q1
 clear q0 q1 hb0
 go_enter Tryz.func76,Tryz.ntmps76
 repeat' (first|(rw [hW0];clear hW0)|go_values|go_skip|go_guarded|(with_reducible refine wg ?_)|go_step|go_upon)
 go_loopw [5] (fun iv wr=> SameR2 w #[.slice a1 l.length c1,.int .i64 lost] #[.slice a2 l.length c2,.int .i64 lost] 178 l.length iv wr) (fun iv _=> l.length - (intOf iv).toNat)
 case atStart=> exact ⟨0,Nat.zero_le _,rfl,Q0.out,Q1.out,HB.out⟩
 case round=>
  clear x0 y0 x1 y1 HB Q0 Q1
  obtain ⟨k,hk,rfl,hq0,hq1,hb⟩:=hrel
  have HB:=hU hb
  have x0:=hcell hq0 0
  by_cases hkl:k<l.length
  · obtain ⟨x,hx⟩:∃ x,l[k]? =some x:=⟨_,List.getElem?_eq_getElem hkl⟩
    obtain ⟨g1,o1,rfl,_,hc1⟩:=H1.out k x hx
    obtain ⟨g2,o2,rfl,_,hc2⟩:=H2.out k x hx
    have Q0:=hU hq0
    have Q1:=hU hq1
    have HC1:=hU hc1
    have HC2:=hU hc2
    have hj1:(k:Int)<(l.length:Int):=by omega
    have hj0:(0:Int)≤(k:Int):=by omega
    clear hc1 hc2 hb hx H1 H2 hq0 hq1
    have hq:=neqMsg x
    repeat' (first|go_values|go_skip|go_guarded|(with_reducible refine wg ?_)|go_step|go_upon)
    refine wp_region_noPanic ?_
    refine go0 (S:=fun W=> W.cell? ⟨w.heap.size,0,none⟩=some (.slice (some ⟨g1,o1,none⟩) l.length c1)∧W.cell? ⟨w.heap.size + 1,0,none⟩=some (.slice (some ⟨g2,o2,none⟩) l.length c2)∧(∀ j u,x.cells[j]? =some u→W.cell? ⟨g1,o1 + k * 2 + j,none⟩=some u)∧(∀ j u,x.cells[j]? =some u→W.cell? ⟨g2,o2 + k * 2 + j,none⟩=some u)) [] (⟨hcell Q0.out 0,hcell Q1.out 0,HC1.out _ HB.out.drew,HC2.out _ HB.out.drew⟩) fun hS=> ?_
    refine tp 0 ?_;try simp only [acts]
    refine tl 1 ?_;try simp only [acts]
    refine tp 2 ?_;try simp only [acts]
    refine tp 3 ?_;try simp only [acts]
    refine tv 4 (.agg x.cells) (fun W hSW=> run_val_load rfl rfl (run_load_arr aggMsg rfl hSW.2.2.1)) ?_
    (try simp only [acts])
    refine tp 5 ?_;try simp only [acts]
    refine tl 6 ?_;try simp only [acts]
    refine tp 7 ?_;try simp only [acts]
    refine tp 8 ?_;try simp only [acts]
    refine tv 9 (.agg x.cells) (fun W hSW=> run_val_load rfl rfl (run_load_arr aggMsg rfl hSW.2.2.2)) ?_
    (try simp only [acts])
    refine tp 10 ?_;try simp only [acts]
    refine doneL (by kernel_rfl) (NoPanic.normal ?_) _
    clear hS
    have Q2:wr.drew.heap[w.heap.size]? =_:=Q0.out
    have Q3:wr.drew.heap[w.heap.size + 1]? =_:=Q1.out
    have HQ2:=hU Q2
    have HQ3:=hU Q3
    clear Q2 Q3 x0
    repeat' (first|go_values|go_skip|go_guarded|(with_reducible refine wg ?_)|go_step|go_upon)
    exact ⟨⟨k + 1,by omega,by go_num,HQ2.out,HQ3.out,HB.out.drew⟩,by simp [intOf];omega⟩
  · clear hq0 hq1 hb
    repeat' (first|go_values|go_skip|go_guarded|(with_reducible refine wg ?_)|go_step|go_upon)
    go_ret
    exact gives_of rfl HB.out
structure Tiny (k:Kern):Prop where
 p:k.p.length≤9223372036854775807
 t:k.t.l.length≤9223372036854775807
 s:k.s.length≤9223372036854775807
 pi:k.pipes.length≤9223372036854775807
 h:k.h.length≤9223372036854775807
 im:k.images.length≤9223372036854775807
 ou:k.outs.length≤9223372036854775807
 ins_:k.ins_.length≤9223372036854775807
 bx:k.box.length≤9223372036854775807
 tr:k.trace.length≤9223372036854775807
 se:k.sent.length≤9223372036854775807
 bl:∀ q ∈ k.box,q.l.length≤9223372036854775807
theorem Sl.len {α:Type} {E:TypeId} {sz:Nat} {f:α→Array Value} {W:World} {v:Value} {l:List α} (h:Sl E sz f W v l):l.length≤9223372036854775807:=by
 obtain ⟨a,c,_,h1,h2⟩:=h.shape
 omega
theorem LayAt.tiny {W:World} {y:Lay} {bs:List BoxV} {k:Kern} (h:LayAt W y bs k):Tiny k:=
 ⟨Sl.len h.p,Sl.len h.t,Sl.len h.s,Sl.len h.pi,Sl.len h.h,Sl.len h.im,Sl.len h.ou,Sl.len h.ins_,by rw [← h.bse,List.length_map];exact Sl.len h.bx,Sl.len h.tr,Sl.len h.se,fun q hq=> by
   rw [← h.bse] at hq
   obtain ⟨x,hx,rfl⟩:=List.mem_map.1 hq
   exact Sl.len (h.ok x hx)⟩
theorem SameKern (va vb:Value) (k:Kern) (w:World) (h1:KernV w va k) (h2:KernV w vb k):Calls Tryz.prog 42 #[va,vb] w (Gives (.bool true) w):=by
 obtain ⟨ya,sa,rfl,hla⟩:=h1
 obtain ⟨yb,sb,rfl,hlb⟩:=h2
 have hn:=hla.tiny
 obtain ⟨q0,q1⟩:=two_new w w.heap.size (.cells (kcells ya k) 70) (.cells (kcells yb k) 70) rfl
 have hb0:Below w.heap.size w ((w.alloc (.cells (kcells ya k) 70)).alloc (.cells (kcells yb k) 70)):=bel
 obtain ⟨W0,hW0⟩:=exW ((w.alloc (.cells (kcells ya k) 70)).alloc (.cells (kcells yb k) 70))
 rw [hW0] at q0 q1 hb0
 have HLA:=hU (fun W (h:Below w.heap.size w W)=> hla.below h)
 have HLB:=hU (fun W (h:Below w.heap.size w W)=> hlb.below h)
 have HE_0:=hU hb0
 have HA_0:=hU q0
 have HB_0:=hU q1
 clear q0 q1 hb0 hla hlb
 obtain ⟨ia1,ic1,hia1,_,_⟩:=(HLA.out _ (Below.refl _ _)).im.shape
 obtain ⟨ia2,ic2,hia2,_,_⟩:=(HLB.out _ (Below.refl _ _)).im.shape
 obtain ⟨xa1,xc1,hxa1,_,_⟩:=(HLA.out _ (Below.refl _ _)).bx.shape
 obtain ⟨xa2,xc2,hxa2,_,_⟩:=(HLB.out _ (Below.refl _ _)).bx.shape
 have hsa:sa.length=k.box.length:=by rw [← (HLA.out _ (Below.refl _ _)).bse,List.length_map]
 have hsb:sb.length=k.box.length:=by rw [← (HLB.out _ (Below.refl _ _)).bse,List.length_map]
 have HI1:=hU hia1
 have HI2:=hU hia2
 have HX1:=hU hxa1
 have HX2:=hU hxa2
 have HSA:=hU hsa
 have HSB:=hU hsb
 clear hia1 hia2 hxa1 hxa2 hsa hsb
 go_enter Tryz.func42,Tryz.ntmps42
 have fA0:W0.cell? ⟨w.heap.size,0,none⟩=some ya.p:=hcell HA_0.out 0
 have fB0:W0.cell? ⟨w.heap.size + 1,0,none⟩=some yb.p:=hcell HB_0.out 0
 repeat' (first|(rw [hW0];clear hW0)|go_values|go_skip|go_guarded|(with_reducible refine wg ?_)|go_step|go_upon)
 refine (SameProc _ _ k.p _ (HLA.out _ HE_0.out).p (HLB.out _ HE_0.out).p hn.p).mono ?_
 rintro er W1 ⟨rfl,hb⟩
 have HA_1:=nB hb HA_0
 have HB_1:=nB hb HB_0
 have HE_1:=hU (HE_0.out.trans (hb.mono HE_0.out.size))
 clear hb HA_0 HB_0 HE_0 fA0 fB0
 dsimp only
 have fA1:W1.cell? ⟨w.heap.size,1,none⟩=some ya.t:=hcell HA_1.out 1
 have fB1:W1.cell? ⟨w.heap.size + 1,1,none⟩=some yb.t:=hcell HB_1.out 1
 have fA2:W1.cell? ⟨w.heap.size,2,none⟩=some (.int .i64 k.t.left):=hcell HA_1.out 2
 have fB2:W1.cell? ⟨w.heap.size + 1,2,none⟩=some (.int .i64 k.t.left):=hcell HB_1.out 2
 repeat' (first|go_values|go_skip|go_guarded|(with_reducible refine wg ?_)|go_step|go_upon)
 refine (SameTurn _ _ k.t _ (HLA.out _ HE_1.out).t (HLB.out _ HE_1.out).t hn.t).mono ?_
 rintro er W2 ⟨rfl,hb⟩
 have HA_2:=nB hb HA_1
 have HB_2:=nB hb HB_1
 have HE_2:=hU (HE_1.out.trans (hb.mono HE_1.out.size))
 clear hb HA_1 HB_1 HE_1 fA1 fB1 fA2 fB2
 dsimp only
 have fA3:W2.cell? ⟨w.heap.size,3,none⟩=some ya.s:=hcell HA_2.out 3
 have fB3:W2.cell? ⟨w.heap.size + 1,3,none⟩=some yb.s:=hcell HB_2.out 3
 repeat' (first|go_values|go_skip|go_guarded|(with_reducible refine wg ?_)|go_step|go_upon)
 refine (SameAlarm _ _ k.s _ (HLA.out _ HE_2.out).s (HLB.out _ HE_2.out).s hn.s).mono ?_
 rintro er W3 ⟨rfl,hb⟩
 have HA_3:=nB hb HA_2
 have HB_3:=nB hb HB_2
 have HE_3:=hU (HE_2.out.trans (hb.mono HE_2.out.size))
 clear hb HA_2 HB_2 HE_2 fA3 fB3
 dsimp only
 have fA4:W3.cell? ⟨w.heap.size,4,none⟩=some ya.pi:=hcell HA_3.out 4
 have fB4:W3.cell? ⟨w.heap.size + 1,4,none⟩=some yb.pi:=hcell HB_3.out 4
 repeat' (first|go_values|go_skip|go_guarded|(with_reducible refine wg ?_)|go_step|go_upon)
 refine (SamePipe _ _ k.pipes _ (HLA.out _ HE_3.out).pi (HLB.out _ HE_3.out).pi hn.pi).mono ?_
 rintro er W4 ⟨rfl,hb⟩
 have HA_4:=nB hb HA_3
 have HB_4:=nB hb HB_3
 have HE_4:=hU (HE_3.out.trans (hb.mono HE_3.out.size))
 clear hb HA_3 HB_3 HE_3 fA4 fB4
 dsimp only
 have fA5:W4.cell? ⟨w.heap.size,5,none⟩=some (.int .i64 k.hs):=hcell HA_4.out 5
 have fB5:W4.cell? ⟨w.heap.size + 1,5,none⟩=some (.int .i64 k.hs):=hcell HB_4.out 5
 have fA6:W4.cell? ⟨w.heap.size,6,none⟩=some ya.h:=hcell HA_4.out 6
 have fB6:W4.cell? ⟨w.heap.size + 1,6,none⟩=some yb.h:=hcell HB_4.out 6
 repeat' (first|go_values|go_skip|go_guarded|(with_reducible refine wg ?_)|go_step|go_upon)
 refine (SameHeap _ _ k.h k.hs _ (HLA.out _ HE_4.out).h (HLB.out _ HE_4.out).h hn.h).mono ?_
 rintro er W5 ⟨rfl,hb⟩
 have HA_5:=nB hb HA_4
 have HB_5:=nB hb HB_4
 have HE_5:=hU (HE_4.out.trans (hb.mono HE_4.out.size))
 clear hb HA_4 HB_4 HE_4 fA5 fB5 fA6 fB6
 dsimp only
 have fA13:W5.cell? ⟨w.heap.size,13,none⟩=some ya.tr:=hcell HA_5.out 13
 have fB13:W5.cell? ⟨w.heap.size + 1,13,none⟩=some yb.tr:=hcell HB_5.out 13
 repeat' (first|go_values|go_skip|go_guarded|(with_reducible refine wg ?_)|go_step|go_upon)
 refine (SameEv _ _ k.trace _ (HLA.out _ HE_5.out).tr (HLB.out _ HE_5.out).tr hn.tr).mono ?_
 rintro er W6 ⟨rfl,hb⟩
 have HA_6:=nB hb HA_5
 have HB_6:=nB hb HB_5
 have HE_6:=hU (HE_5.out.trans (hb.mono HE_5.out.size))
 clear hb HA_5 HB_5 HE_5 fA13 fB13
 dsimp only
 have fA14:W6.cell? ⟨w.heap.size,14,none⟩=some ya.se:=hcell HA_6.out 14
 have fB14:W6.cell? ⟨w.heap.size + 1,14,none⟩=some yb.se:=hcell HB_6.out 14
 repeat' (first|go_values|go_skip|go_guarded|(with_reducible refine wg ?_)|go_step|go_upon)
 refine (SameOut _ _ k.sent _ (HLA.out _ HE_6.out).se (HLB.out _ HE_6.out).se hn.se).mono ?_
 rintro er W7 ⟨rfl,hb⟩
 have HA_7:=nB hb HA_6
 have HB_7:=nB hb HB_6
 have HE_7:=hU (HE_6.out.trans (hb.mono HE_6.out.size))
 clear hb HA_6 HB_6 HE_6 fA14 fB14
 dsimp only
 have fA9:W7.cell? ⟨w.heap.size,9,none⟩=some ya.ou:=hcell HA_7.out 9
 have fB9:W7.cell? ⟨w.heap.size + 1,9,none⟩=some yb.ou:=hcell HB_7.out 9
 repeat' (first|go_values|go_skip|go_guarded|(with_reducible refine wg ?_)|go_step|go_upon)
 refine (SameChan _ _ k.outs _ (HLA.out _ HE_7.out).ou (HLB.out _ HE_7.out).ou hn.ou).mono ?_
 rintro er W8 ⟨rfl,hb⟩
 have HA_8:=nB hb HA_7
 have HB_8:=nB hb HB_7
 have HE_8:=hU (HE_7.out.trans (hb.mono HE_7.out.size))
 clear hb HA_7 HB_7 HE_7 fA9 fB9
 dsimp only
 have fA10:W8.cell? ⟨w.heap.size,10,none⟩=some ya.ins_:=hcell HA_8.out 10
 have fB10:W8.cell? ⟨w.heap.size + 1,10,none⟩=some yb.ins_:=hcell HB_8.out 10
 repeat' (first|go_values|go_skip|go_guarded|(with_reducible refine wg ?_)|go_step|go_upon)
 refine (SameChan _ _ k.ins_ _ (HLA.out _ HE_8.out).ins_ (HLB.out _ HE_8.out).ins_ hn.ins_).mono ?_
 rintro er W9 ⟨rfl,hb⟩
 have HA_9:=nB hb HA_8
 have HB_9:=nB hb HB_8
 have HE_9:=hU (HE_8.out.trans (hb.mono HE_8.out.size))
 clear hb HA_8 HB_8 HE_8 fA10 fB10
 dsimp only
 have fA7:W9.cell? ⟨w.heap.size,7,none⟩=some (.int .u64 k.now):=hcell HA_9.out 7
 have fB7:W9.cell? ⟨w.heap.size + 1,7,none⟩=some (.int .u64 k.now):=hcell HB_9.out 7
 have fA12:W9.cell? ⟨w.heap.size,12,none⟩=some (.string k.cons):=hcell HA_9.out 12
 have fB12:W9.cell? ⟨w.heap.size + 1,12,none⟩=some (.string k.cons):=hcell HB_9.out 12
 have fA15:W9.cell? ⟨w.heap.size,15,none⟩=some (.int .i64 k.want):=hcell HA_9.out 15
 have fB15:W9.cell? ⟨w.heap.size + 1,15,none⟩=some (.int .i64 k.want):=hcell HB_9.out 15
 have fA16:W9.cell? ⟨w.heap.size,16,none⟩=some (.int .i64 k.gone):=hcell HA_9.out 16
 have fB16:W9.cell? ⟨w.heap.size + 1,16,none⟩=some (.int .i64 k.gone):=hcell HB_9.out 16
 have fA8:W9.cell? ⟨w.heap.size,8,none⟩=some (.slice ia1 k.images.length ic1):=(hcell HA_9.out 8).trans (congrArg some HI1.out)
 have fB8:W9.cell? ⟨w.heap.size + 1,8,none⟩=some (.slice ia2 k.images.length ic2):=(hcell HB_9.out 8).trans (congrArg some HI2.out)
 have fA11:W9.cell? ⟨w.heap.size,11,none⟩=some (.slice xa1 sa.length xc1):=(hcell HA_9.out 11).trans (congrArg some HX1.out)
 have fB11:W9.cell? ⟨w.heap.size + 1,11,none⟩=some (.slice xa2 sb.length xc2):=(hcell HB_9.out 11).trans (congrArg some HX2.out)
 have hss:(sa.length:Int)=(sb.length:Int):=by rw [HSA.out,HSB.out]
 repeat' (first|go_values|go_skip|go_guarded|(with_reducible refine wg ?_)|go_step|go_upon)
 clear fA7 fB7 fA12 fB12 fA15 fB15 fA16 fB16 fA8 fB8 fA11 fB11
 go_loopw [10] (fun iv wr=> SameR2 w (kcells ya k) (kcells yb k) 70 k.images.length iv wr) (fun iv _=> k.images.length - (intOf iv).toNat)
 case atStart=> exact ⟨0,Nat.zero_le _,rfl,HA_9.out,HB_9.out,HE_9.out⟩
 case round=>
  clear HA_9 HB_9 HE_9
  obtain ⟨i,hi,rfl,hq0,hq1,hb⟩:=hrel
  have HE:=hU hb
  have Q0:=hU hq0
  have Q1:=hU hq1
  have f8:wr.cell? ⟨w.heap.size,8,none⟩=some (.slice ia1 k.images.length ic1):=(hcell Q0.out 8).trans (congrArg some HI1.out)
  clear hb hq0 hq1
  by_cases hil:i<k.images.length
  · obtain ⟨x,hx⟩:∃ x,k.images[i]? =some x:=⟨_,List.getElem?_eq_getElem hil⟩
    have e1:=(HLA.out _ (Below.refl _ _)).im
    have e2:=(HLB.out _ (Below.refl _ _)).im
    rw [HI1.out] at e1
    rw [HI2.out] at e2
    obtain ⟨g1,o1,rfl,_,hc1⟩:=e1.elem.2.2.2 i x hx
    obtain ⟨g2,o2,rfl,_,hc2⟩:=e2.elem.2.2.2 i x hx
    have HC1:=hU hc1
    have HC2:=hU hc2
    have hj1:(i:Int)<(k.images.length:Int):=by omega
    have hj0:(0:Int)≤(i:Int):=by omega
    clear hc1 hc2 hx e1 e2
    repeat' (first|go_values|go_skip|go_guarded|(with_reducible refine wg ?_)|go_step|go_upon)
    refine wp_region_noPanic ?_
    refine go0 (S:=fun W=> W.cell? ⟨w.heap.size,8,none⟩=some (.slice (some ⟨g1,o1,none⟩) k.images.length ic1)∧W.cell? ⟨w.heap.size + 1,8,none⟩=some (.slice (some ⟨g2,o2,none⟩) k.images.length ic2)∧W.cell? ⟨g1,o1 + i,none⟩=some (.string x)∧W.cell? ⟨g2,o2 + i,none⟩=some (.string x)) [] (⟨(hcell Q0.out 8).trans (congrArg some HI1.out),(hcell Q1.out 8).trans (congrArg some HI2.out),by simpa using HC1.out _ HE.out.drew 0 (.string x) rfl,by simpa using HC2.out _ HE.out.drew 0 (.string x) rfl⟩) fun hS=> ?_
    refine tp 0 ?_;try simp only [acts]
    refine tl 1 ?_;try simp only [acts]
    refine tp 2 ?_;try simp only [acts]
    refine tp 3 ?_;try simp only [acts]
    refine tl 4 ?_;try simp only [acts]
    refine tp 5 ?_;try simp only [acts]
    refine tl 6 ?_;try simp only [acts]
    refine tp 7 ?_;try simp only [acts]
    refine tp 8 ?_;try simp only [acts]
    refine tl 9 ?_;try simp only [acts]
    refine tp 10 ?_;try simp only [acts]
    refine doneL (by kernel_rfl) (NoPanic.normal ?_) _
    clear hS f8
    have Q2:wr.drew.heap[w.heap.size]? =_:=Q0.out
    have Q3:wr.drew.heap[w.heap.size + 1]? =_:=Q1.out
    have HQ2:=hU Q2
    have HQ3:=hU Q3
    clear Q2 Q3
    repeat' (first|go_values|go_skip|go_guarded|(with_reducible refine wg ?_)|go_step|go_upon)
    exact ⟨⟨i + 1,by omega,by go_num,HQ2.out,HQ3.out,HE.out.drew⟩,by simp [intOf];omega⟩
  · repeat' (first|go_values|go_skip|go_guarded|(with_reducible refine wg ?_)|go_step|go_upon)
    clear f8
    obtain ⟨wo,rfl⟩:∃ wo:World,wo=wr:=⟨wr,rfl⟩
    go_loopw [11] (fun iv wr=> SameR2 w (kcells ya k) (kcells yb k) 70 k.box.length iv wr) (fun iv _=> k.box.length - (intOf iv).toNat)
    case atStart=> exact ⟨0,Nat.zero_le _,rfl,Q0.out,Q1.out,HE.out⟩
    case round=>
     clear Q0 Q1 HE
     obtain ⟨j,hj,rfl,hq0,hq1,hb⟩:=hrel
     have HE:=hU hb
     have Q0:=hU hq0
     have Q1:=hU hq1
     have f11:wr.cell? ⟨w.heap.size,11,none⟩=some (.slice xa1 sa.length xc1):=(hcell Q0.out 11).trans (congrArg some HX1.out)
     clear hb hq0 hq1
     by_cases hjl:j<k.box.length
     · have hj1:(j:Int)<(sa.length:Int):=by rw [HSA.out];omega
       have hj2:(j:Int)<(sb.length:Int):=by rw [HSB.out];omega
       have hj0:(0:Int)≤(j:Int):=by omega
       obtain ⟨⟨a1,c1,z1⟩,hx1⟩:∃ x,sa[j]? =some x:=⟨_,List.getElem?_eq_getElem (by omega)⟩
       obtain ⟨⟨a2,c2,z2⟩,hx2⟩:∃ x,sb[j]? =some x:=⟨_,List.getElem?_eq_getElem (by omega)⟩
       have hz1:k.box[j]? =some z1:=by rw [← (HLA.out _ (Below.refl _ _)).bse,List.getElem?_map,hx1];rfl
       have hz2:k.box[j]? =some z2:=by rw [← (HLB.out _ (Below.refl _ _)).bse,List.getElem?_map,hx2];rfl
       obtain rfl:z1=z2:=by rw [hz1] at hz2;exact Option.some.inj hz2
       have hbl:=hn.bl z1 (List.mem_of_getElem? hz1)
       obtain ⟨zl,zt⟩:=z1
       have OK1:=hU (fun W (h:Below w.heap.size w W)=> (HLA.out W h).ok _ (List.mem_of_getElem? hx1))
       have OK2:=hU (fun W (h:Below w.heap.size w W)=> (HLB.out W h).ok _ (List.mem_of_getElem? hx2))
       have e1:=(HLA.out _ (Below.refl _ _)).bx
       have e2:=(HLB.out _ (Below.refl _ _)).bx
       rw [HX1.out] at e1
       rw [HX2.out] at e2
       obtain ⟨g1,o1,rfl,_,hc1⟩:=e1.elem.2.2.2 j _ hx1
       obtain ⟨g2,o2,rfl,_,hc2⟩:=e2.elem.2.2.2 j _ hx2
       have HC1:=hU hc1
       have HC2:=hU hc2
       clear hc1 hc2 hx1 hx2 hz1 hz2 e1 e2
       repeat' (first|go_values|go_skip|go_guarded|(with_reducible refine wg ?_)|go_step|go_upon)
       refine wp_region_noPanic ?_
       refine go0 (S:=fun W=> W.cell? ⟨w.heap.size,11,none⟩=some (.slice (some ⟨g1,o1,none⟩) sa.length xc1)∧W.cell? ⟨w.heap.size + 1,11,none⟩=some (.slice (some ⟨g2,o2,none⟩) sb.length xc2)∧(∀ i u,(#[.slice a1 zl.length c1,.int .i64 zt]:Array Value)[i]? =some u→W.cell? ⟨g1,o1 + j * 2 + i,none⟩=some u)∧(∀ i u,(#[.slice a2 zl.length c2,.int .i64 zt]:Array Value)[i]? =some u→W.cell? ⟨g2,o2 + j * 2 + i,none⟩=some u)) [] (⟨(hcell Q0.out 11).trans (congrArg some HX1.out),(hcell Q1.out 11).trans (congrArg some HX2.out),HC1.out _ HE.out.drew,HC2.out _ HE.out.drew⟩) fun hS=> ?_
       refine tp 0 ?_;try simp only [acts]
       refine tl 1 ?_;try simp only [acts]
       refine tp 2 ?_;try simp only [acts]
       refine tp 3 ?_;try simp only [acts]
       refine tv 4 (.agg #[.slice a1 zl.length c1,.int .i64 zt]) (fun W hSW=> run_val_load rfl rfl (run_load_arr aggBox rfl hSW.2.2.1)) ?_
       (try simp only [acts])
       refine tp 5 ?_;try simp only [acts]
       refine tl 6 ?_;try simp only [acts]
       refine tp 7 ?_;try simp only [acts]
       refine tp 8 ?_;try simp only [acts]
       refine tv 9 (.agg #[.slice a2 zl.length c2,.int .i64 zt]) (fun W hSW=> run_val_load rfl rfl (run_load_arr aggBox rfl hSW.2.2.2)) ?_
       (try simp only [acts])
       refine ro 10 fun K hK=> ?_
       refine want rfl ?_
       go_simp
       refine (SameBox a1 a2 c1 c2 zl zt _ (OK1.out _ HE.out.drew) (OK2.out _ HE.out.drew) hbl).mono ?_
       rintro er W2 ⟨rfl,hb⟩
       have HE2:=hU (HE.out.drew.trans (hb.mono HE.out.drew.size))
       have Q2:=nB hb (show Hid (wr.drew.heap[w.heap.size]? =_) from hU Q0.out)
       have Q3:=nB hb (show Hid (wr.drew.heap[w.heap.size + 1]? =_) from hU Q1.out)
       clear hb
       dsimp only
       try clear hS
       refine nx hK (⟨(hcell Q2.out 11).trans (congrArg some HX1.out),(hcell Q3.out 11).trans (congrArg some HX2.out),HC1.out _ HE2.out,HC2.out _ HE2.out⟩) fun hS=> ?_
       clear hK K
       (try simp only [acts])
       refine tp 11 ?_;try simp only [acts]
       refine doneL (by kernel_rfl) (NoPanic.normal ?_) _
       clear hS f11
       repeat' (first|go_values|go_skip|go_guarded|(with_reducible refine wg ?_)|go_step|go_upon)
       exact ⟨⟨j + 1,by omega,by go_num,Q2.out,Q3.out,HE2.out⟩,by simp [intOf];omega⟩
     · have hjs:¬ (j:Int)<(sa.length:Int):=by rw [HSA.out];omega
       repeat' (first|go_values|go_skip|go_guarded|(with_reducible refine wg ?_)|go_step|go_upon)
       go_ret
       exact gives_of rfl HE.out
end Kn
end Go.Proofs.YthgehdghihbiaaaGreatDoor
