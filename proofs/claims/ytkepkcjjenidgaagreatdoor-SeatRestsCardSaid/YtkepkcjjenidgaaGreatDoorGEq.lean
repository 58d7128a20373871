/- slices.Equal, at each type that a guest holds: two rows that are the same. Condition: they are. kern.Same: two guests that are the same. Condition: they are. seat.Same. Condition: two seats that read as one. -/
import Derived.Test.YtkepkcjjenidgaaGreatDoorGSe0
set_option linter.unusedVariables false
set_option maxRecDepth 100000
set_option maxHeartbeats 8000000
set_option linter.unusedSimpArgs false
namespace Go.Proofs.YtkepkcjjenidgaaGreatDoor
open Go.RowKit KR RegT3
namespace Kn
theorem allEq:EqSt 98 170 2∧EqSt 99 172 3∧EqSt 100 181 3∧EqSt 88 121 4∧EqSt 105 175 2∧EqSt 102 111 5∧EqSt 173 80 2:=by
 refine ⟨?_,?_,?_,?_,?_,?_,?_⟩
 all_goals
  intro w a1 a2 n c1 c2 hn he
  have HE:=hU he
  clear he
  go_in
  repeat' (first|go_values|go_skip|go_guarded|(with_reducible refine wg ?_)|go_step|go_upon)
  go_loopw [13] (fun iv wr=> SameR w n iv wr) (fun iv _=> n - (intOf iv).toNat)
  case atStart=> exact ⟨0,Nat.zero_le _,rfl,Below.refl _ _⟩
  case round=>
   obtain ⟨k,hk,rfl,hb⟩:=hrel
   have HB:=hU hb
   clear hb
   by_cases hkl:k<n
   · obtain ⟨g1,o1,g2,o2,cs,S,rfl,rfl,hS,l1,l2,hq⟩:=HE.out k hkl
     have HS:=hU hS
     have H1:=hU l1
     have H2:=hU l2
     have hj1:(k:Int)<(n:Int):=by omega
     have hj0:(0:Int)≤(k:Int):=by omega
     clear hS l1 l2
     repeat' (first|go_values|go_skip|go_guarded|(with_reducible refine wg ?_)|go_step|go_upon)
     refine wp_region_noPanic ?_
     refine go0 (S:=S) [] (HS.out _ HB.out.drew) fun hS=> ?_
     refine tp 0 ?_;try simp only [acts]
     refine tp 1 ?_;try simp only [acts]
     refine tp 2 ?_;try simp only [acts]
     refine tv 3 (.agg cs) (fun W hSW=> run_val_load rfl rfl (H1.out W hSW)) ?_
     (try simp only [acts])
     refine tp 4 ?_;try simp only [acts]
     refine tp 5 ?_;try simp only [acts]
     refine tp 6 ?_;try simp only [acts]
     refine tv 7 (.agg cs) (fun W hSW=> run_val_load rfl rfl (H2.out W hSW)) ?_
     (try simp only [acts])
     refine tp 8 ?_;try simp only [acts]
     refine doneL (by kernel_rfl) (NoPanic.normal ?_) _
     clear hS
     repeat' (first|go_values|go_skip|go_guarded|(with_reducible refine wg ?_)|go_step|go_upon)
     exact ⟨⟨k + 1,by omega,by go_num,HB.out.drew⟩,by simp [intOf];omega⟩
   · repeat' (first|go_values|go_skip|go_guarded|(with_reducible refine wg ?_)|go_step|go_upon)
     go_ret
     exact gives_of rfl HB.out
theorem EqAlarm (u v:Value) (l:List Alarm) (w:World) (h1:Sl 170 2 Alarm.cells w u l) (h2:Sl 170 2 Alarm.cells w v l):Calls Tryz.prog 98 #[u,v] w (Gives (.bool true) w):=eq_of allEq.1 aggAlarm szAlarm neqAlarm h1 h2
theorem EqPipe (u v:Value) (l:List Pipe) (w:World) (h1:Sl 172 3 Pipe.cells w u l) (h2:Sl 172 3 Pipe.cells w v l):Calls Tryz.prog 99 #[u,v] w (Gives (.bool true) w):=eq_of allEq.2.1 aggPipe szPipe neqPipe h1 h2
theorem EqSpan (u v:Value) (l:List Span) (w:World) (h1:Sl 181 3 Span.cells w u l) (h2:Sl 181 3 Span.cells w v l):Calls Tryz.prog 100 #[u,v] w (Gives (.bool true) w):=eq_of allEq.2.2.1 aggSpan szSpan neqSpan h1 h2
theorem EqEv (u v:Value) (l:List Ev) (w:World) (h1:Sl 121 4 Ev.cells w u l) (h2:Sl 121 4 Ev.cells w v l):Calls Tryz.prog 88 #[u,v] w (Gives (.bool true) w):=eq_of allEq.2.2.2.1 aggEv szEv neqEv h1 h2
theorem EqOut (u v:Value) (l:List Out) (w:World) (h1:Sl 175 2 Out.cells w u l) (h2:Sl 175 2 Out.cells w v l):Calls Tryz.prog 105 #[u,v] w (Gives (.bool true) w):=eq_of allEq.2.2.2.2.1 aggOut szOut neqOut h1 h2
theorem EqChan (u v:Value) (l:List Chan) (w:World) (h1:Sl 111 5 Chan.cells w u l) (h2:Sl 111 5 Chan.cells w v l):Calls Tryz.prog 102 #[u,v] w (Gives (.bool true) w):=eq_of allEq.2.2.2.2.2.1 aggChan szChan neqChan h1 h2
theorem EqMsg (u v:Value) (l:List Msg) (w:World) (h1:Sl 80 2 Msg.cells w u l) (h2:Sl 80 2 Msg.cells w v l):Calls Tryz.prog 173 #[u,v] w (Gives (.bool true) w):=eq_of allEq.2.2.2.2.2.2 aggMsg szMsg neqMsg h1 h2
theorem EqInt (u v:Value) (l:List Int) (w:World) (h1:Sl 3 1 intCells w u l) (h2:Sl 3 1 intCells w v l):Calls Tryz.prog 136 #[u,v] w (Gives (.bool true) w):=by
 obtain ⟨a1,c1,rfl,hm1,hm2⟩:=h1.shape
 obtain ⟨a2,c2,rfl,_,_⟩:=h2.shape
 have H1:=hU h1.elem.2.2.2
 have H2:=hU h2.elem.2.2.2
 clear h1 h2
 go_enter Tryz.func136,Tryz.ntmps136
 repeat' (first|go_values|go_skip|go_guarded|(with_reducible refine wg ?_)|go_step|go_upon)
 go_loopw [13] (fun iv wr=> SameR w l.length iv wr) (fun iv _=> l.length - (intOf iv).toNat)
 case atStart=> exact ⟨0,Nat.zero_le _,rfl,Below.refl _ _⟩
 case round=>
  obtain ⟨k,hk,rfl,hb⟩:=hrel
  by_cases hkl:k<l.length
  · obtain ⟨x,hx⟩:∃ x,l[k]? =some x:=⟨_,List.getElem?_eq_getElem hkl⟩
    obtain ⟨g1,o1,rfl,_,hc1⟩:=H1.out k x hx
    obtain ⟨g2,o2,rfl,_,hc2⟩:=H2.out k x hx
    have HC1:=hU hc1
    have HC2:=hU hc2
    have HB:=hU hb
    have hj1:(k:Int)<(l.length:Int):=by omega
    have hj0:(0:Int)≤(k:Int):=by omega
    clear hc1 hc2 hb hx H1 H2
    repeat' (first|go_values|go_skip|go_guarded|(with_reducible refine wg ?_)|go_step|go_upon)
    refine wp_region_noPanic ?_
    refine go0 (S:=fun W=> (W.cell? ⟨g1,o1 + k,none⟩=some (.int .i64 x))∧(W.cell? ⟨g2,o2 + k,none⟩=some (.int .i64 x))) [] (⟨by simpa using HC1.out _ HB.out.drew 0 (.int .i64 x) rfl,by simpa using HC2.out _ HB.out.drew 0 (.int .i64 x) rfl⟩) fun hS=> ?_
    refine tp 0 ?_;try simp only [acts]
    refine tp 1 ?_;try simp only [acts]
    refine tp 2 ?_;try simp only [acts]
    refine tl 3 ?_;try simp only [acts]
    refine tp 4 ?_;try simp only [acts]
    refine tp 5 ?_;try simp only [acts]
    refine tp 6 ?_;try simp only [acts]
    refine tl 7 ?_;try simp only [acts]
    refine tp 8 ?_;try simp only [acts]
    refine doneL (by kernel_rfl) (NoPanic.normal ?_) _
    clear hS
    repeat' (first|go_values|go_skip|go_guarded|(with_reducible refine wg ?_)|go_step|go_upon)
    exact ⟨⟨k + 1,by omega,by go_num,HB.out.drew⟩,by simp [intOf];omega⟩
  · have HB:=hU hb
    clear hb
    repeat' (first|go_values|go_skip|go_guarded|(with_reducible refine wg ?_)|go_step|go_upon)
    go_ret
    exact gives_of rfl HB.out
theorem EqStr (u v:Value) (l:List ByteArray) (w:World) (h1:Sl 9 1 strCells w u l) (h2:Sl 9 1 strCells w v l):Calls Tryz.prog 101 #[u,v] w (Gives (.bool true) w):=by
 obtain ⟨a1,c1,rfl,hm1,hm2⟩:=h1.shape
 obtain ⟨a2,c2,rfl,_,_⟩:=h2.shape
 have H1:=hU h1.elem.2.2.2
 have H2:=hU h2.elem.2.2.2
 clear h1 h2
 go_enter Tryz.func101,Tryz.ntmps101
 repeat' (first|go_values|go_skip|go_guarded|(with_reducible refine wg ?_)|go_step|go_upon)
 go_loopw [13] (fun iv wr=> SameR w l.length iv wr) (fun iv _=> l.length - (intOf iv).toNat)
 case atStart=> exact ⟨0,Nat.zero_le _,rfl,Below.refl _ _⟩
 case round=>
  obtain ⟨k,hk,rfl,hb⟩:=hrel
  by_cases hkl:k<l.length
  · obtain ⟨x,hx⟩:∃ x,l[k]? =some x:=⟨_,List.getElem?_eq_getElem hkl⟩
    obtain ⟨g1,o1,rfl,_,hc1⟩:=H1.out k x hx
    obtain ⟨g2,o2,rfl,_,hc2⟩:=H2.out k x hx
    have HC1:=hU hc1
    have HC2:=hU hc2
    have HB:=hU hb
    have hj1:(k:Int)<(l.length:Int):=by omega
    have hj0:(0:Int)≤(k:Int):=by omega
    clear hc1 hc2 hb hx H1 H2
    repeat' (first|go_values|go_skip|go_guarded|(with_reducible refine wg ?_)|go_step|go_upon)
    refine wp_region_noPanic ?_
    refine go0 (S:=fun W=> (W.cell? ⟨g1,o1 + k,none⟩=some (.string x))∧(W.cell? ⟨g2,o2 + k,none⟩=some (.string x))) [] (⟨by simpa using HC1.out _ HB.out.drew 0 (.string x) rfl,by simpa using HC2.out _ HB.out.drew 0 (.string x) rfl⟩) fun hS=> ?_
    refine tp 0 ?_;try simp only [acts]
    refine tp 1 ?_;try simp only [acts]
    refine tp 2 ?_;try simp only [acts]
    refine tl 3 ?_;try simp only [acts]
    refine tp 4 ?_;try simp only [acts]
    refine tp 5 ?_;try simp only [acts]
    refine tp 6 ?_;try simp only [acts]
    refine tl 7 ?_;try simp only [acts]
    refine tp 8 ?_;try simp only [acts]
    refine doneL (by kernel_rfl) (NoPanic.normal ?_) _
    clear hS
    repeat' (first|go_values|go_skip|go_guarded|(with_reducible refine wg ?_)|go_step|go_upon)
    exact ⟨⟨k + 1,by omega,by go_num,HB.out.drew⟩,by simp [intOf];omega⟩
  · have HB:=hU hb
    clear hb
    repeat' (first|go_values|go_skip|go_guarded|(with_reducible refine wg ?_)|go_step|go_upon)
    go_ret
    exact gives_of rfl HB.out
theorem eqlProc (x:Proc) (W:World):(binOp .eql 167 (.agg x.cells) (.agg x.cells)).run Tryz.prog W=.ok (.bool true) W:=by
 have hA:=arr_regs
 have hF:=arr_fds
 unfold Proc.cells
 go_simp
theorem EqProc1 (x:Proc) (w:World):Calls Tryz.prog 135 #[.agg x.cells,.agg x.cells] w (Gives (.bool true) w):=by
 have hq:=eqlProc x
 obtain ⟨q0,q1⟩:=two_new w w.heap.size (.cells x.cells 167) (.cells x.cells 167) rfl
 have hb0:Below w.heap.size w ((w.alloc (.cells x.cells 167)).alloc (.cells x.cells 167)):=bel
 obtain ⟨W0,hW0⟩:=exW ((w.alloc (.cells x.cells 167)).alloc (.cells x.cells 167))
 rw [hW0] at q0 q1 hb0
 have HB:=hU hb0
 have H0:=hU q0
 have H1:=hU q1
 clear q0 q1 hb0
 go_enter Tryz.func135,Tryz.ntmps135
 repeat' (first
  |(rw [hW0];clear hW0)
  |(refine wpList_load (t:=167) (v:=.agg x.cells) rfl rfl rfl (run_load_whole aggProc H0.out rfl) ?_)
  |(refine wpList_load (t:=167) (v:=.agg x.cells) rfl rfl rfl (run_load_whole aggProc H1.out rfl) ?_)
  |go_values|go_skip|go_guarded|(with_reducible refine wg ?_)|go_step|go_upon)
 go_ret
 exact gives_of rfl HB.out
theorem EqFnProc (u v:Value) (l:List Proc) (w:World) (h1:SlP w u l) (h2:SlP w v l):Calls Tryz.prog 134 #[u,v,.func (.func 135) #[] #[]] w (Gives (.bool true) w):=by
 obtain ⟨a1,c1,rfl,hm1,hm2⟩:=h1.shape
 obtain ⟨a2,c2,rfl,_,_⟩:=h2.shape
 have H1:=hU h1.elem.2.2.2
 have H2:=hU h2.elem.2.2.2
 clear h1 h2
 go_enter Tryz.func134,Tryz.ntmps134
 repeat' (first|go_values|go_skip|go_guarded|(with_reducible refine wg ?_)|go_step|go_upon)
 go_loopw [17] (fun iv wr=> SameR w l.length iv wr) (fun iv _=> l.length - (intOf iv).toNat)
 case atStart=> exact ⟨0,Nat.zero_le _,rfl,Below.refl _ _⟩
 case round=>
  obtain ⟨k,hk,rfl,hb⟩:=hrel
  by_cases hkl:k<l.length
  · obtain ⟨x,hx⟩:∃ x,l[k]? =some x:=⟨_,List.getElem?_eq_getElem hkl⟩
    obtain ⟨g1,o1,rfl,_,hc1⟩:=H1.out k x hx
    obtain ⟨g2,o2,rfl,_,hc2⟩:=H2.out k x hx
    have HC1:=hU (hc1 wr hb)
    have HC2:=hU hc2
    have HB:=hU hb
    have hsz:=hb.size
    have hj1:(k:Int)<(l.length:Int):=by omega
    have hj0:(0:Int)≤(k:Int):=by omega
    clear hc1 hc2 hb hx H1 H2
    obtain ⟨n1,haA,hn1⟩:∃ n1,wr.heap.size=n1∧w.heap.size≤n1:=⟨_,rfl,hsz⟩
    obtain ⟨Wa,hWa,hba,HA_Wa⟩:=nb1 (.cells #[.int .i64 0,.int .i64 0,.int .i64 0,.int .u32 0,.int .u32 0,.int .u32 0,.int .u32 0,.int .u32 0,.int .u32 0,.int .u32 0,.int .u32 0,.int .u32 0,.string ⟨#[]⟩,.int .i64 0,.int .i64 0,.bool false,.int .i64 0,.bool false,.int .i64 0,.bool false,.int .i64 0,.bool false,.int .u32 0,.int .u32 0,.int .u32 0,.int .u32 0] 167) haA
    have HB_Wa:=hU (HB.out.trans (hba.mono hsz))
    clear hba
    repeat' (first
     |(refine wpList_load (t:=167) (v:=.agg x.cells) rfl rfl rfl (run_load_arr aggProc rfl HC1.out) ?_)
     |(rw [hWa,haA];clear hWa)
     |(refine wpList_store (t:=167) (v:=.agg x.cells) (off:=0) (new:=x.cells) rfl rfl rfl rfl aggProc.size HA_Wa.out rfl (show 0 + 26≤26 by decide) (onesProc x) rfl ?_;intro Wb hp
       have HB_Wb:=hU (Below.put HB_Wa.out hp (by omega))
       have HA_Wb:=pA hp
       have hz2:=hlt HA_Wb.out
       obtain ⟨n2,haD,hn2⟩:∃ n2,Wb.heap.size=n2∧n1<n2:=⟨_,rfl,hz2⟩
       obtain ⟨Wc,hWc,hbc,HD_Wc⟩:=nb1 (.cells #[.int .i64 0,.int .i64 0,.int .i64 0,.int .u32 0,.int .u32 0,.int .u32 0,.int .u32 0,.int .u32 0,.int .u32 0,.int .u32 0,.int .u32 0,.int .u32 0,.string ⟨#[]⟩,.int .i64 0,.int .i64 0,.bool false,.int .i64 0,.bool false,.int .i64 0,.bool false,.int .i64 0,.bool false,.int .u32 0,.int .u32 0,.int .u32 0,.int .u32 0] 167) haD
       have HA_Wc:=nB hbc HA_Wb
       have HB_Wc:=hU (HB_Wb.out.trans (hbc.mono HB_Wb.out.size))
       have HC3:=hU (HC2.out Wb HB_Wb.out)
       clear hbc HA_Wb hz2 HC2 HC1
       clear hp HA_Wa HB_Wa)
     |(refine wpList_load (t:=167) (v:=.agg x.cells) rfl rfl rfl (run_load_arr aggProc rfl HC3.out) ?_)
     |(rw [hWc,haD];clear hWc)
     |(refine wpList_store (t:=167) (v:=.agg x.cells) (off:=0) (new:=x.cells) rfl rfl rfl rfl aggProc.size HD_Wc.out rfl (show 0 + 26≤26 by decide) (onesProc x) rfl ?_;intro Wd hp
       have HB_Wd:=hU (Below.put HB_Wc.out hp (by omega))
       have HD_Wd:=pA hp
       have HA_Wd:=pO hp HA_Wc
       clear hp HD_Wc HB_Wc)
     |(refine wpList_load (t:=167) (v:=.agg x.cells) rfl rfl rfl (run_load_whole aggProc HA_Wd.out rfl) ?_)
     |(refine wpList_load (t:=167) (v:=.agg x.cells) rfl rfl rfl (run_load_whole aggProc HD_Wd.out rfl) ?_)
     |go_values|go_skip|go_guarded|(with_reducible refine wg ?_)|go_step|go_upon)
    refine (EqProc1 x _).mono ?_
    rintro er We ⟨rfl,hb⟩
    have HB_We:=hU (HB_Wd.out.trans (hb.mono HB_Wd.out.size))
    clear hb
    dsimp only
    repeat' (first|go_values|go_skip|go_guarded|(with_reducible refine wg ?_)|go_step|go_upon)
    exact ⟨⟨k + 1,by omega,by go_num,HB_We.out⟩,by simp [intOf];omega⟩
  · have HB:=hU hb
    clear hb
    repeat' (first|go_values|go_skip|go_guarded|(with_reducible refine wg ?_)|go_step|go_upon)
    go_ret
    exact gives_of rfl HB.out
theorem ESTab (u v:Value) (l:List Proc) (w:World) (h1:SlP w u l) (h2:SlP w v l):Calls Tryz.prog 96 #[u,v] w (Gives (.bool true) w):=by
 have HC:=hU (EqFnProc u v l w h1 h2)
 clear h1 h2
 go_enter Tryz.func96,Tryz.ntmps96
 repeat' (first|go_values|go_skip|go_guarded|(with_reducible refine wg ?_)|go_step|go_upon)
 refine HC.out.mono ?_
 rintro er W1 ⟨rfl,hb⟩
 have HB:=hU hb
 clear hb
 dsimp only
 repeat' (first|go_values|go_skip|go_guarded|(with_reducible refine wg ?_)|go_step|go_upon)
 go_ret
 exact gives_of rfl HB.out
theorem ESTurn (u v:Value) (t:Turn) (w:World) (h1:SlI w u t.l) (h2:SlI w v t.l):Calls Tryz.prog 97 #[.agg #[u,.int .i64 t.left],.agg #[v,.int .i64 t.left]] w (Gives (.bool true) w):=by
 obtain ⟨q0,q1⟩:=two_new w w.heap.size (.cells #[u,.int .i64 t.left] 45) (.cells #[v,.int .i64 t.left] 45) rfl
 have hb0:Below w.heap.size w ((w.alloc (.cells #[u,.int .i64 t.left] 45)).alloc (.cells #[v,.int .i64 t.left] 45)):=bel
 obtain ⟨W0,hW0⟩:=exW ((w.alloc (.cells #[u,.int .i64 t.left] 45)).alloc (.cells #[v,.int .i64 t.left] 45))
 rw [hW0] at q0 q1 hb0
 have HB:=hU hb0
 have H0:=hU q0
 have H1:=hU q1
 clear q0 q1 hb0
 have HC:=hU (EqInt u v t.l W0 (h1.below HB.out) (h2.below HB.out))
 have a0:=hcell H0.out 0
 have b0:=hcell H1.out 0
 clear h1 h2
 go_enter Tryz.func97,Tryz.ntmps97
 repeat' (first|(rw [hW0];clear hW0)|go_values|go_skip|go_guarded|(with_reducible refine wg ?_)|go_step|go_upon)
 refine HC.out.mono ?_
 rintro er W1 ⟨rfl,hb⟩
 have a1:=hcell (nB hb H0).out 1
 have b1:=hcell (nB hb H1).out 1
 have HB1:=hU (HB.out.trans (hb.mono HB.out.size))
 clear a0 b0 hb
 dsimp only
 repeat' (first|go_values|go_skip|go_guarded|(with_reducible refine wg ?_)|go_step|go_upon)
 go_ret
 exact gives_of (by simp) HB1.out
theorem onesBy (a:Option Addr) (n c:Nat) (x:Int):∀ u ∈ (#[.slice a n c,.int .i64 x]:Array Value).toList,u.oneCell'=true:=by
 intro u hu
 simp at hu
 rcases hu with rfl|rfl <;> rfl
theorem EqIs (u v:Value) (l:List Msg) (w:World) (h1:Sl 80 2 Msg.cells w u l) (h2:Sl 80 2 Msg.cells w v l):Calls Tryz.prog 137 #[u,v] w (Gives (.bool true) w):=by
 have HC:=hU (EqMsg u v l w h1 h2)
 clear h1 h2
 go_enter Tryz.func137,Tryz.ntmps137
 repeat' (first|go_values|go_skip|go_guarded|(with_reducible refine wg ?_)|go_step|go_upon)
 refine HC.out.mono ?_
 rintro er W1 ⟨rfl,hb⟩
 have HB:=hU hb
 clear hb
 dsimp only
 repeat' (first|go_values|go_skip|go_guarded|(with_reducible refine wg ?_)|go_step|go_upon)
 go_ret
 exact gives_of rfl HB.out
theorem ESBox (a1 a2:Option Addr) (c1 c2:Nat) (l:List Msg) (lost:Int) (w:World) (h1:BoxOk w ⟨a1,c1,⟨l,lost⟩⟩) (h2:BoxOk w ⟨a2,c2,⟨l,lost⟩⟩):Calls Tryz.prog 104 #[.agg #[.slice a1 l.length c1,.int .i64 lost],.agg #[.slice a2 l.length c2,.int .i64 lost]] w (Gives (.bool true) w):=by
 unfold BoxOk at h1 h2
 dsimp only at h1 h2
 obtain ⟨q0,q1⟩:=two_new w w.heap.size (.cells #[.slice a1 l.length c1,.int .i64 lost] 78) (.cells #[.slice a2 l.length c2,.int .i64 lost] 78) rfl
 have hb0:Below w.heap.size w ((w.alloc (.cells #[.slice a1 l.length c1,.int .i64 lost] 78)).alloc (.cells #[.slice a2 l.length c2,.int .i64 lost] 78)):=bel
 obtain ⟨W0,hW0⟩:=exW ((w.alloc (.cells #[.slice a1 l.length c1,.int .i64 lost] 78)).alloc (.cells #[.slice a2 l.length c2,.int .i64 lost] 78))
 rw [hW0] at q0 q1 hb0
 have HB:=hU hb0
 have H0:=hU q0
 have H1:=hU q1
 clear q0 q1 hb0
 have HC:=hU (EqIs _ _ l W0 (h1.below HB.out) (h2.below HB.out))
 have a0:=hcell H0.out 0
 have a1':=hcell H0.out 1
 have b0:=hcell H1.out 0
 have b1':=hcell H1.out 1
 clear h1 h2
 go_enter Tryz.func104,Tryz.ntmps104
 repeat' (first|(rw [hW0];clear hW0)|go_values|go_skip|go_guarded|(with_reducible refine wg ?_)|go_step|go_upon)
 refine HC.out.mono ?_
 rintro er W1 ⟨rfl,hb⟩
 have HB1:=hU (HB.out.trans (hb.mono HB.out.size))
 clear hb
 dsimp only
 repeat' (first|go_values|go_skip|go_guarded|(with_reducible refine wg ?_)|go_step|go_upon)
 go_ret
 exact gives_of (by simp) HB1.out
theorem EqFnBox (u v:Value) (xs ys:List BoxV) (w:World) (h1:SlBx w u xs) (h2:SlBx w v ys) (hxy:xs.map (·.b)=ys.map (·.b)) (o1:∀ x ∈ xs,BoxOk w x) (o2:∀ x ∈ ys,BoxOk w x):Calls Tryz.prog 103 #[u,v,.func (.func 104) #[] #[]] w (Gives (.bool true) w):=by
 have hln:xs.length=ys.length:=by have:=congrArg List.length hxy;simpa using this
 obtain ⟨a1,c1,rfl,hm1,hm2⟩:=h1.shape
 obtain ⟨a2,c2,rfl,_,_⟩:=h2.shape
 have H1:=hU h1.elem.2.2.2
 have H2:=hU h2.elem.2.2.2
 have HO1:=hU o1
 have HO2:=hU o2
 have HXY:=hU hxy
 have HLN:=hU hln
 have hlI:(xs.length:Int)=(ys.length:Int):=by omega
 clear h1 h2 o1 o2 hxy hln
 go_enter Tryz.func103,Tryz.ntmps103
 repeat' (first|go_values|go_skip|go_guarded|(with_reducible refine wg ?_)|go_step|go_upon)
 go_loopw [17] (fun iv wr=> SameR w xs.length iv wr) (fun iv _=> xs.length - (intOf iv).toNat)
 case atStart=> exact ⟨0,Nat.zero_le _,rfl,Below.refl _ _⟩
 case round=>
  obtain ⟨k,hk,rfl,hb⟩:=hrel
  by_cases hkl:k<xs.length
  · obtain ⟨⟨p1,m1,z⟩,hx⟩:∃ x,xs[k]? =some x:=⟨_,List.getElem?_eq_getElem hkl⟩
    obtain ⟨⟨p2,m2,z'⟩,hy⟩:∃ x,ys[k]? =some x:=⟨_,List.getElem?_eq_getElem (by have:=HLN.out;omega)⟩
    obtain rfl:z=z':=by
     have e:=congrArg (fun l=> l[k]?) HXY.out
     simp only [List.getElem?_map,hx,hy,Option.map_some] at e
     exact Option.some.inj e
    obtain ⟨zl,zt⟩:=z
    have OK1:=hU (HO1.out _ (List.mem_of_getElem? hx))
    have OK2:=hU (HO2.out _ (List.mem_of_getElem? hy))
    obtain ⟨g1,o1,rfl,_,hc1⟩:=H1.out k _ hx
    obtain ⟨g2,o2,rfl,_,hc2⟩:=H2.out k _ hy
    have HC1:Hid (∀ j u,(#[.slice p1 zl.length m1,.int .i64 zt]:Array Value)[j]? =some u→wr.cell? ⟨g1,o1 + k * 2 + j,none⟩=some u):=hU (hc1 wr hb)
    have HC2:Hid (∀ W,Below w.heap.size w W→∀ j u,(#[.slice p2 zl.length m2,.int .i64 zt]:Array Value)[j]? =some u→W.cell? ⟨g2,o2 + k * 2 + j,none⟩=some u):=hU hc2
    have HB:=hU hb
    have hsz:=hb.size
    have hj1:(k:Int)<(xs.length:Int):=by omega
    have hj2:(k:Int)<(ys.length:Int):=by omega
    have hj0:(0:Int)≤(k:Int):=by omega
    clear hc1 hc2 hb hx hy H1 H2 hlI
    obtain ⟨n1,haA,hn1⟩:∃ n1,wr.heap.size=n1∧w.heap.size≤n1:=⟨_,rfl,hsz⟩
    obtain ⟨Wa,hWa,hba,HA_Wa⟩:=nb1 (.cells #[.slice none 0 0,.int .i64 0] 78) haA
    have HB_Wa:=hU (HB.out.trans (hba.mono hsz))
    clear hba
    repeat' (first
     |(refine wpList_load (t:=78) (v:=.agg #[.slice p1 zl.length m1,.int .i64 zt]) rfl rfl rfl (run_load_arr aggBox rfl HC1.out) ?_)
     |(rw [hWa,haA];clear hWa)
     |(refine wpList_store (t:=78) (v:=.agg #[.slice p1 zl.length m1,.int .i64 zt]) (off:=0) (new:=#[.slice p1 zl.length m1,.int .i64 zt]) rfl rfl rfl rfl aggBox.size HA_Wa.out rfl (show 0 + 2≤2 by decide) (onesBy _ _ _ _) rfl ?_;intro Wb hp
       have HB_Wb:=hU (Below.put HB_Wa.out hp (by omega))
       have HA_Wb:=pA hp
       have hz2:=hlt HA_Wb.out
       obtain ⟨n2,haD,hn2⟩:∃ n2,Wb.heap.size=n2∧n1<n2:=⟨_,rfl,hz2⟩
       obtain ⟨Wc,hWc,hbc,HD_Wc⟩:=nb1 (.cells #[.slice none 0 0,.int .i64 0] 78) haD
       have HA_Wc:=nB hbc HA_Wb
       have HB_Wc:=hU (HB_Wb.out.trans (hbc.mono HB_Wb.out.size))
       have HC3:=hU (HC2.out Wb HB_Wb.out)
       clear hbc HA_Wb hz2 HC2 HC1
       clear hp HA_Wa HB_Wa)
     |(refine wpList_load (t:=78) (v:=.agg #[.slice p2 zl.length m2,.int .i64 zt]) rfl rfl rfl (run_load_arr aggBox rfl HC3.out) ?_)
     |(rw [hWc,haD];clear hWc)
     |(refine wpList_store (t:=78) (v:=.agg #[.slice p2 zl.length m2,.int .i64 zt]) (off:=0) (new:=#[.slice p2 zl.length m2,.int .i64 zt]) rfl rfl rfl rfl aggBox.size HD_Wc.out rfl (show 0 + 2≤2 by decide) (onesBy _ _ _ _) rfl ?_;intro Wd hp
       have HB_Wd:=hU (Below.put HB_Wc.out hp (by omega))
       have HD_Wd:=pA hp
       have HA_Wd:=pO hp HA_Wc
       clear hp HD_Wc HB_Wc)
     |(refine wpList_load (t:=78) (v:=.agg #[.slice p1 zl.length m1,.int .i64 zt]) rfl rfl rfl (run_load_whole aggBox HA_Wd.out rfl) ?_)
     |(refine wpList_load (t:=78) (v:=.agg #[.slice p2 zl.length m2,.int .i64 zt]) rfl rfl rfl (run_load_whole aggBox HD_Wd.out rfl) ?_)
     |go_values|go_skip|go_guarded|(with_reducible refine wg ?_)|go_step|go_upon)
    refine (ESBox p1 p2 m1 m2 zl zt _ (OK1.out.below HB_Wd.out) (OK2.out.below HB_Wd.out)).mono ?_
    rintro er We ⟨rfl,hb⟩
    have HB_We:=hU (HB_Wd.out.trans (hb.mono HB_Wd.out.size))
    clear hb
    dsimp only
    repeat' (first|go_values|go_skip|go_guarded|(with_reducible refine wg ?_)|go_step|go_upon)
    exact ⟨⟨k + 1,by omega,by go_num,HB_We.out⟩,by simp [intOf];omega⟩
  · have HB:=hU hb
    clear hb
    repeat' (first|go_values|go_skip|go_guarded|(with_reducible refine wg ?_)|go_step|go_upon)
    go_ret
    exact gives_of rfl HB.out
theorem ESKern (va vb:Value) (k:Kern) (w:World) (h1:KernV w va k) (h2:KernV w vb k):Calls Tryz.prog 61 #[va,vb] w (Gives (.bool true) w):=by
 obtain ⟨ya,sa,rfl,hla⟩:=h1
 obtain ⟨yb,sb,rfl,hlb⟩:=h2
 obtain ⟨q0,q1⟩:=two_new w w.heap.size (.cells (kcells ya k) 56) (.cells (kcells yb k) 56) rfl
 have hb0:Below w.heap.size w ((w.alloc (.cells (kcells ya k) 56)).alloc (.cells (kcells yb k) 56)):=bel
 obtain ⟨W0,hW0⟩:=exW ((w.alloc (.cells (kcells ya k) 56)).alloc (.cells (kcells yb k) 56))
 rw [hW0] at q0 q1 hb0
 have HLA:=hU (fun W (h:Below w.heap.size w W)=> hla.below h)
 have HLB:=hU (fun W (h:Below w.heap.size w W)=> hlb.below h)
 have HE_0:=hU hb0
 have HA_0:=hU q0
 have HB_0:=hU q1
 clear q0 q1 hb0 hla hlb
 go_enter Tryz.func61,Tryz.ntmps61
 have fA0:W0.cell? ⟨w.heap.size,0,none⟩=some ya.p:=hcell HA_0.out 0
 have fB0:W0.cell? ⟨w.heap.size + 1,0,none⟩=some yb.p:=hcell HB_0.out 0
 repeat' (first|(rw [hW0];clear hW0)|go_values|go_skip|go_guarded|(with_reducible refine wg ?_)|go_step|go_upon)
 refine (ESTab _ _ k.p _ (HLA.out _ HE_0.out).p (HLB.out _ HE_0.out).p).mono ?_
 rintro er W1 ⟨rfl,hb⟩
 have HA_1:=nB hb HA_0
 have HB_1:=nB hb HB_0
 have HE_1:=hU (HE_0.out.trans (hb.mono HE_0.out.size))
 clear hb HA_0 HB_0 HE_0 fA0 fB0
 dsimp only
 have fA1:W1.cell? ⟨w.heap.size,1,none⟩=some ya.t:=hcell HA_1.out 1
 have fB1:W1.cell? ⟨w.heap.size + 1,1,none⟩=some yb.t:=hcell HB_1.out 1
 have fA2:W1.cell? ⟨w.heap.size,2,none⟩=some (.int .i64 k.t.left):=hcell HA_1.out 2
 have fB2:W1.cell? ⟨w.heap.size + 1,2,none⟩=some (.int .i64 k.t.left):=hcell HB_1.out 2
 repeat' (first|go_values|go_skip|go_guarded|(with_reducible refine wg ?_)|go_step|go_upon)
 refine (ESTurn _ _ k.t _ (HLA.out _ HE_1.out).t (HLB.out _ HE_1.out).t).mono ?_
 rintro er W2 ⟨rfl,hb⟩
 have HA_2:=nB hb HA_1
 have HB_2:=nB hb HB_1
 have HE_2:=hU (HE_1.out.trans (hb.mono HE_1.out.size))
 clear hb HA_1 HB_1 HE_1 fA1 fB1 fA2 fB2
 dsimp only
 have fA3:W2.cell? ⟨w.heap.size,3,none⟩=some ya.s:=hcell HA_2.out 3
 have fB3:W2.cell? ⟨w.heap.size + 1,3,none⟩=some yb.s:=hcell HB_2.out 3
 repeat' (first|go_values|go_skip|go_guarded|(with_reducible refine wg ?_)|go_step|go_upon)
 refine (EqAlarm _ _ k.s _ (HLA.out _ HE_2.out).s (HLB.out _ HE_2.out).s).mono ?_
 rintro er W3 ⟨rfl,hb⟩
 have HA_3:=nB hb HA_2
 have HB_3:=nB hb HB_2
 have HE_3:=hU (HE_2.out.trans (hb.mono HE_2.out.size))
 clear hb HA_2 HB_2 HE_2 fA3 fB3
 dsimp only
 have fA4:W3.cell? ⟨w.heap.size,4,none⟩=some ya.pi:=hcell HA_3.out 4
 have fB4:W3.cell? ⟨w.heap.size + 1,4,none⟩=some yb.pi:=hcell HB_3.out 4
 repeat' (first|go_values|go_skip|go_guarded|(with_reducible refine wg ?_)|go_step|go_upon)
 refine (EqPipe _ _ k.pipes _ (HLA.out _ HE_3.out).pi (HLB.out _ HE_3.out).pi).mono ?_
 rintro er W4 ⟨rfl,hb⟩
 have HA_4:=nB hb HA_3
 have HB_4:=nB hb HB_3
 have HE_4:=hU (HE_3.out.trans (hb.mono HE_3.out.size))
 clear hb HA_3 HB_3 HE_3 fA4 fB4
 dsimp only
 have fA5:W4.cell? ⟨w.heap.size,5,none⟩=some (.int .i64 k.hs):=hcell HA_4.out 5
 have fB5:W4.cell? ⟨w.heap.size + 1,5,none⟩=some (.int .i64 k.hs):=hcell HB_4.out 5
 have fA6:W4.cell? ⟨w.heap.size,6,none⟩=some ya.h:=hcell HA_4.out 6
 have fB6:W4.cell? ⟨w.heap.size + 1,6,none⟩=some yb.h:=hcell HB_4.out 6
 repeat' (first|go_values|go_skip|go_guarded|(with_reducible refine wg ?_)|go_step|go_upon)
 refine (EqSpan _ _ k.h _ (HLA.out _ HE_4.out).h (HLB.out _ HE_4.out).h).mono ?_
 rintro er W5 ⟨rfl,hb⟩
 have HA_5:=nB hb HA_4
 have HB_5:=nB hb HB_4
 have HE_5:=hU (HE_4.out.trans (hb.mono HE_4.out.size))
 clear hb HA_4 HB_4 HE_4 fA5 fB5 fA6 fB6
 dsimp only
 have fA8:W5.cell? ⟨w.heap.size,8,none⟩=some ya.im:=hcell HA_5.out 8
 have fB8:W5.cell? ⟨w.heap.size + 1,8,none⟩=some yb.im:=hcell HB_5.out 8
 repeat' (first|go_values|go_skip|go_guarded|(with_reducible refine wg ?_)|go_step|go_upon)
 refine (EqStr _ _ k.images _ (HLA.out _ HE_5.out).im (HLB.out _ HE_5.out).im).mono ?_
 rintro er W6 ⟨rfl,hb⟩
 have HA_6:=nB hb HA_5
 have HB_6:=nB hb HB_5
 have HE_6:=hU (HE_5.out.trans (hb.mono HE_5.out.size))
 clear hb HA_5 HB_5 HE_5 fA8 fB8
 dsimp only
 have fA9:W6.cell? ⟨w.heap.size,9,none⟩=some ya.ou:=hcell HA_6.out 9
 have fB9:W6.cell? ⟨w.heap.size + 1,9,none⟩=some yb.ou:=hcell HB_6.out 9
 repeat' (first|go_values|go_skip|go_guarded|(with_reducible refine wg ?_)|go_step|go_upon)
 refine (EqChan _ _ k.outs _ (HLA.out _ HE_6.out).ou (HLB.out _ HE_6.out).ou).mono ?_
 rintro er W7 ⟨rfl,hb⟩
 have HA_7:=nB hb HA_6
 have HB_7:=nB hb HB_6
 have HE_7:=hU (HE_6.out.trans (hb.mono HE_6.out.size))
 clear hb HA_6 HB_6 HE_6 fA9 fB9
 dsimp only
 have fA10:W7.cell? ⟨w.heap.size,10,none⟩=some ya.ins_:=hcell HA_7.out 10
 have fB10:W7.cell? ⟨w.heap.size + 1,10,none⟩=some yb.ins_:=hcell HB_7.out 10
 repeat' (first|go_values|go_skip|go_guarded|(with_reducible refine wg ?_)|go_step|go_upon)
 refine (EqChan _ _ k.ins_ _ (HLA.out _ HE_7.out).ins_ (HLB.out _ HE_7.out).ins_).mono ?_
 rintro er W8 ⟨rfl,hb⟩
 have HA_8:=nB hb HA_7
 have HB_8:=nB hb HB_7
 have HE_8:=hU (HE_7.out.trans (hb.mono HE_7.out.size))
 clear hb HA_7 HB_7 HE_7 fA10 fB10
 dsimp only
 have fA11:W8.cell? ⟨w.heap.size,11,none⟩=some ya.bx:=hcell HA_8.out 11
 have fB11:W8.cell? ⟨w.heap.size + 1,11,none⟩=some yb.bx:=hcell HB_8.out 11
 repeat' (first|go_values|go_skip|go_guarded|(with_reducible refine wg ?_)|go_step|go_upon)
 refine (EqFnBox _ _ sa sb _ (HLA.out _ HE_8.out).bx (HLB.out _ HE_8.out).bx ((HLA.out _ HE_8.out).bse.trans (HLB.out _ HE_8.out).bse.symm) (HLA.out _ HE_8.out).ok (HLB.out _ HE_8.out).ok).mono ?_
 rintro er W9 ⟨rfl,hb⟩
 have HA_9:=nB hb HA_8
 have HB_9:=nB hb HB_8
 have HE_9:=hU (HE_8.out.trans (hb.mono HE_8.out.size))
 clear hb HA_8 HB_8 HE_8 fA11 fB11
 dsimp only
 have fA12:W9.cell? ⟨w.heap.size,12,none⟩=some (.string k.cons):=hcell HA_9.out 12
 have fB12:W9.cell? ⟨w.heap.size + 1,12,none⟩=some (.string k.cons):=hcell HB_9.out 12
 have fA13:W9.cell? ⟨w.heap.size,13,none⟩=some ya.tr:=hcell HA_9.out 13
 have fB13:W9.cell? ⟨w.heap.size + 1,13,none⟩=some yb.tr:=hcell HB_9.out 13
 repeat' (first|go_values|go_skip|go_guarded|(with_reducible refine wg ?_)|go_step|go_upon)
 refine (EqEv _ _ k.trace _ (HLA.out _ HE_9.out).tr (HLB.out _ HE_9.out).tr).mono ?_
 rintro er W10 ⟨rfl,hb⟩
 have HA_10:=nB hb HA_9
 have HB_10:=nB hb HB_9
 have HE_10:=hU (HE_9.out.trans (hb.mono HE_9.out.size))
 clear hb HA_9 HB_9 HE_9 fA12 fB12 fA13 fB13
 dsimp only
 have fA14:W10.cell? ⟨w.heap.size,14,none⟩=some ya.se:=hcell HA_10.out 14
 have fB14:W10.cell? ⟨w.heap.size + 1,14,none⟩=some yb.se:=hcell HB_10.out 14
 repeat' (first|go_values|go_skip|go_guarded|(with_reducible refine wg ?_)|go_step|go_upon)
 refine (EqOut _ _ k.sent _ (HLA.out _ HE_10.out).se (HLB.out _ HE_10.out).se).mono ?_
 rintro er W11 ⟨rfl,hb⟩
 have HA_11:=nB hb HA_10
 have HB_11:=nB hb HB_10
 have HE_11:=hU (HE_10.out.trans (hb.mono HE_10.out.size))
 clear hb HA_10 HB_10 HE_10 fA14 fB14
 dsimp only
 have fA7:W11.cell? ⟨w.heap.size,7,none⟩=some (.int .u64 k.now):=hcell HA_11.out 7
 have fB7:W11.cell? ⟨w.heap.size + 1,7,none⟩=some (.int .u64 k.now):=hcell HB_11.out 7
 have fA15:W11.cell? ⟨w.heap.size,15,none⟩=some (.int .i64 k.want):=hcell HA_11.out 15
 have fB15:W11.cell? ⟨w.heap.size + 1,15,none⟩=some (.int .i64 k.want):=hcell HB_11.out 15
 have fA16:W11.cell? ⟨w.heap.size,16,none⟩=some (.int .i64 k.gone):=hcell HA_11.out 16
 have fB16:W11.cell? ⟨w.heap.size + 1,16,none⟩=some (.int .i64 k.gone):=hcell HB_11.out 16
 repeat' (first|go_values|go_skip|go_guarded|(with_reducible refine wg ?_)|go_step|go_upon)
 go_ret
 exact gives_of (by simp) HE_11.out
theorem ESSeat (va vb:Value) (s:Seat) (w:World) (h1:SeatV w va s) (h2:SeatV w vb s):Calls Tryz.prog 29 #[va,vb] w (Gives (.bool true) w):=by
 obtain ⟨ya,sa,rfl,hla⟩:=h1
 obtain ⟨yb,sb,rfl,hlb⟩:=h2
 obtain ⟨q0,q1⟩:=two_new w w.heap.size (.cells (scells ya s) 58) (.cells (scells yb s) 58) rfl
 have hb0:Below w.heap.size w ((w.alloc (.cells (scells ya s) 58)).alloc (.cells (scells yb s) 58)):=bel
 obtain ⟨W0,hW0⟩:=exW ((w.alloc (.cells (scells ya s) 58)).alloc (.cells (scells yb s) 58))
 rw [hW0] at q0 q1 hb0
 have HA_0:=hU q0
 have HR_0:=hU q1
 have HB_0:=hU hb0
 have e4:=ESKern (.agg (kcells ya s.k)) (.agg (kcells yb s.k)) s.k W0 ⟨ya,sa,rfl,hla.below hb0⟩ ⟨yb,sb,rfl,hlb.below hb0⟩
 have HST:=hU e4
 clear q0 q1 hb0 hla hlb e4
 go_enter Tryz.func29,Tryz.ntmps29
 repeat' (first
  |(rw [hW0];clear hW0)
  |(refine wpList_load (t:=56) (v:=.agg (kcells ya s.k)) rfl rfl rfl (run_load_part aggKern HA_0.out (scells_kern _ _) rfl) ?_)
  |(refine wpList_load (t:=56) (v:=.agg (kcells yb s.k)) rfl rfl rfl (run_load_part aggKern HR_0.out (scells_kern _ _) rfl) ?_)
  |go_values|go_skip|go_guarded|(with_reducible refine wg ?_)|go_step|go_upon)
 refine HST.out.mono ?_
 rintro er W1 ⟨rfl,hb1⟩
 have f1:W1.cell? ⟨w.heap.size,17,none⟩=some (.int .i64 s.st):=hcell (nB hb1 HA_0).out 17
 have f2:W1.cell? ⟨w.heap.size,18,none⟩=some (.int .i64 s.boots):=hcell (nB hb1 HA_0).out 18
 have f3:W1.cell? ⟨w.heap.size + 1,17,none⟩=some (.int .i64 s.st):=hcell (nB hb1 HR_0).out 17
 have f4:W1.cell? ⟨w.heap.size + 1,18,none⟩=some (.int .i64 s.boots):=hcell (nB hb1 HR_0).out 18
 have HB_1:=hU (HB_0.out.trans (hb1.mono HB_0.out.size))
 clear hb1
 dsimp only
 repeat' (first|go_values|go_skip|go_guarded|(with_reducible refine wg ?_)|go_step|go_upon)
 go_ret
 exact gives_of (by simp) HB_1.out
end Kn
end Go.Proofs.YtkepkcjjenidgaaGreatDoor
