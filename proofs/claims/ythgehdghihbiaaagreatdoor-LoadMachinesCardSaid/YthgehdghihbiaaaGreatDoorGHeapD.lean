/- heap.Take: a piece of the room. Conditions: the spans lie there, not more than Go can hold. -/
import Derived.Test.YthgehdghihbiaaaGreatDoorGHeap
import Derived.Test.YthgehdghihbiaaaGreatDoorGPipe
import Derived.WalkMore
import Derived.Scope
set_option linter.unusedVariables false
set_option maxRecDepth 100000
set_option maxHeartbeats 8000000
set_option linter.unusedSimpArgs false
namespace Go.Proofs.YthgehdghihbiaaaGreatDoor
open Go.RowKit KR
attribute [local go_sem] Oper.semAt_some
namespace Kn
theorem hhole_gaps (size n:Int):∀ (l:List Span) (a:Int),hhole size n l a=((gaps (l ++ [(⟨size,0,0⟩:Span)]) a).find? (fun x=> decide (n≤x.n))).map (·.at_)
 |[],a=> by
  unfold hhole
  simp only [List.nil_append,gaps,List.append_nil]
  by_cases h1:a<size <;> by_cases h2:n≤size - a <;> simp [h1,h2]
 |s::r,a=> by
  have ih:=hhole_gaps size n r (s.at_ + s.n)
  unfold hhole
  rw [List.cons_append,gaps,List.find?_append]
  by_cases h1:a<s.at_ <;> by_cases h2:n≤s.at_ - a <;> simp [h1,h2,ih]
theorem take_none {size n who:Int} {l:List Span} (h1:1≤n) (hr:hright size l=true) (h:∀ x ∈ holesOf size l,¬ n≤x.n):htakeE size l n who=(l,5):=by
 have hh:hhole size n l 0=none:=by
  rw [hhole_gaps,show gaps _ 0=holesOf size l from rfl,List.find?_eq_none.2 (fun x hx=> by simpa using h x hx)]
  rfl
 unfold htakeE htake
 rw [if_neg (by rw [hr];simp;omega),hh]
theorem take_some {size n who:Int} {l p:List Span} {x:Span} (h1:1≤n) (hr:hright size l=true) (h:p ++ [x] <+:holesOf size l) (hno:∀ y ∈ p,¬ n≤y.n) (hx:n≤x.n):
 htakeE size l n who=(ins l (l.takeWhile (fun s=> decide (s.at_<x.at_))).length ⟨x.at_,n,who⟩,0):=by
 have hh:hhole size n l 0=some x.at_:=by
  obtain ⟨t,ht⟩:=h
  rw [hhole_gaps,show gaps _ 0=holesOf size l from rfl,← ht,List.append_assoc,List.find?_append,List.find?_eq_none.2 (fun y hy=> by simpa using hno y hy)]
  simp [hx]
 unfold htakeE htake
 rw [if_neg (by rw [hr];simp;omega),hh]
theorem take_odd {size n who:Int} {l:List Span} (hr:hright size l=false):htakeE size l n who=(l,1):=by
 unfold htakeE
 rw [if_pos (.inr hr)]
theorem gaps_in {size:Int}:∀ (l:List Span) (a:Int),hrightFrom size l a=true→0≤a→∀ x ∈ gaps (l ++ [(⟨size,0,0⟩:Span)]) a,0≤x.at_
 |[],a,_,h0,x,hx=> by
  simp only [List.nil_append,gaps,List.append_nil] at hx
  split at hx
  · simp at hx
    subst hx
    exact h0
  · cases hx
 |s::r,a,hr,h0,x,hx=> by
  obtain ⟨h1,h2,h3,h4,h5⟩:=right_cons hr
  rw [List.cons_append,gaps,List.mem_append] at hx
  rcases hx with hx|hx
  · split at hx
    · simp at hx
      subst hx
      exact h0
    · cases hx
  · exact gaps_in r _ h5 (by omega) x hx
def ahead (l:List Span) (t:Int):Nat:=(l.takeWhile (fun s=> decide (s.at_<t))).length
theorem ahead_at {l:List Span} {t:Int} {k:Nat} (h:∀ j x,j<k→l[j]? =some x→x.at_<t) (hk:∀ x,l[k]? =some x→¬ x.at_<t) (hl:k≤l.length):ahead l t=k:=by
 unfold ahead
 induction l generalizing k with
 |nil=> simp at hl;subst hl;rfl
 |cons s r ih=>
  cases k with
  |zero=>
   have:=hk s rfl
   simp [List.takeWhile,this]
  |succ k=>
   have h0:=h 0 s (by omega) rfl
   have:=ih (k:=k) (fun j x hj hx=> h (j + 1) x (by omega) (by simpa using hx)) (fun x hx=> hk x (by simpa using hx)) (by simp at hl;omega)
   simp [List.takeWhile,h0,this]
def AheadAt (W:World) (l:List Span) (t:Int) (iv:Value) (wr:World):Prop:=∃ k:Nat,k≤l.length∧iv=.int .i64 k∧(∀ j x,j<k→l[j]? =some x→x.at_<t)∧Below W.heap.size W wr
def TookH (size:Int) (l:List Span) (n who:Int) (w:World) (e:Ending) (w':World):Prop:=
 ∃ (u':Value) (at_:Int),e=.returned (.tuple #[.agg #[.int .i64 size,u'],.int .i64 at_,.int .i64 (htakeE size l n who).2])∧SlS w' u' (htakeE size l n who).1∧Below w.heap.size w w'
theorem HTake_in (f:Nat) (hf:3≤f) (a:Option Addr) (c:Nat) (size:Int) (l:List Span) (n who:Int) (w:World) (hS:SlS w (.slice a l.length c) l) (h1:1≤n) (hs0: -9223372036854775808≤size) (hs:size≤9223372036854775807) (hl:l.length≤1000000):
 CallsIn Fence.wide f Tryz.prog 103 #[.agg #[.int .i64 size,.slice a l.length c],.int .i64 n,.int .i64 who] w (TookH size l n who w):=by
 have hf1:1≤f:=by omega
 obtain ⟨q0,q1,q2⟩:=three_new w w.heap.size (.cells #[.int .i64 size,.slice a l.length c] 65) (.cells #[.int .i64 n] 3) (.cells #[.int .i64 0,.slice none 0 0] 65) rfl
 have HB0:Hid (Below w.heap.size w (((w.alloc (.cells #[.int .i64 size,.slice a l.length c] 65)).alloc (.cells #[.int .i64 n] 3)).alloc (.cells #[.int .i64 0,.slice none 0 0] 65))):=hU bel
 have HR:=hU (HRight (.slice a l.length c) size l _ (hS.below HB0.out) hs0 hs)
 have Q0:=hU q0
 have Q1:=hU q1
 have Q2:=hU q2
 have HS:=hU hS
 have hlc:l.length≤c:=by obtain ⟨_,_,he,h2,_⟩:=hS.shape;injection he with _ _ h3;omega
 clear q0 q1 q2 hS
 refine callsIn_of_wp_marks Tryz.func103 rfl trivial ?_ rfl
 refine wpIn_wide.2 ?_
 simp only [Tryz.ntmps103,List.size_toArray,List.length_cons,List.length_nil,Nat.reduceAdd,Nat.reduceSub,Array.replicate_succ,Array.replicate_zero,List.push_toArray,List.append_toArray,List.nil_append,List.cons_append]
 repeat' (first|go_values|go_skip|go_guarded|(with_reducible refine wg ?_)|go_step|go_upon)
 go_step3
 repeat' (first|go_values|go_skip|go_guarded|(with_reducible refine wg ?_)|go_step|go_upon)
 refine HR.out.mono ?_
 rintro e w1 ⟨rfl,hb1⟩
 have hz1:=hb1.size
 simp at hz1
 have HH1:=hU ((hb1.block w.heap.size (by simp;omega)).trans Q0.out)
 have HN1:=hU ((hb1.block (w.heap.size + 1) (by simp)).trans Q1.out)
 have HR1:=hU ((hb1.block (w.heap.size + 1 + 1) (by simp)).trans Q2.out)
 have HB1:=hU (Below.to HB0.out hb1)
 have k0:w1.cell? ⟨w.heap.size,0,none⟩=some (.int .i64 size):=hcell HH1.out 0
 have k1:w1.cell? ⟨w.heap.size,1,none⟩=some (.slice a l.length c):=hcell HH1.out 1
 have y0:w.heap.size<w1.heap.size:=by omega
 have y1:w.heap.size + 1<w1.heap.size:=by omega
 have y2:w.heap.size + 1 + 1<w1.heap.size:=by omega
 clear hb1 HR
 dsimp only
 cases hr:hright size l
 · have ht:=take_odd (n:=n) (who:=who) hr
   repeat' (first
    |(refine wpList_store (t:=65) (v:=.agg #[.int .i64 size,.slice a l.length c]) (off:=0) (new:=#[.int .i64 size,.slice a l.length c]) rfl rfl rfl rfl aggHeap.size HR1.out rfl (by simp) (by intro u hu;simp [Value.cells] at hu;rcases hu with rfl|rfl <;> rfl) rfl ?_;intro W2 hp2;have HR2:=hU hp2.at_;have HB2:=hU (Below.put HB1.out hp2 (by omega));clear hp2)
    |go_values|go_skip|go_guarded|(with_reducible refine wg ?_)|go_step|go_upon)
   rw [Exit.noGoto_ret]
   refine ⟨_,res_cell_tmp2 Tryz.results103 aggHeap rfl HR2.out rfl,?_⟩
   rw [TookH,ht]
   exact ⟨_,0,rfl,HS.out.below HB2.out,HB2.out⟩
 · have hn1:decide (n<1)=false:=by simp;omega
   repeat' (first|go_values|go_skip|go_guarded|(with_reducible refine wg ?_)|go_step|go_upon)
   go_step3
   repeat' (first
    |(go_at_call 115;refine ((callsIn_wide (n:=3)).1 (holes_in 3 _ _ _ _ _)).mono ?_;rintro e w' ⟨rfl,rfl⟩;dsimp only)
    |go_values|go_skip|go_guarded|(with_reducible refine wg ?_)|go_step|go_upon)
   refine (wpIn_wide (n:=f)).1 ?_
   simp only [World.size_alloc]
   obtain ⟨q0,q1⟩:=two_new w1 w1.heap.size (.cells #[.int .i64 (-1)] 3) (.cells #[.int .i64 size,.slice a l.length c] 65) rfl
   have hb0:Below w1.heap.size w1 ((w1.alloc (.cells #[.int .i64 (-1)] 3)).alloc (.cells #[.int .i64 size,.slice a l.length c] 65)):=bel
   have hsz:((w1.alloc (.cells #[.int .i64 (-1)] 3)).alloc (.cells #[.int .i64 size,.slice a l.length c] 65)).heap.size=w1.heap.size + 2:=by simp
   obtain ⟨W0,hW0⟩:∃ W0,((w1.alloc (.cells #[.int .i64 (-1)] 3)).alloc (.cells #[.int .i64 size,.slice a l.length c] 65))=W0:=⟨_,rfl⟩
   rw [hW0] at q0 q1 hb0 hsz ⊢
   clear hW0
   have hSW:=(HS.out.below HB1.out).below hb0
   refine wpIn_rangeFunc_ownH rfl hf1 (gf:=135) (lb:=#[.pointer (some ⟨w1.heap.size + 1,0,none⟩)]) rfl trivial (enters_of Tryz.func135 (by kernel_rfl) rfl)
    (holes_stops (f - 1) (fun k=> k ≠ w1.heap.size) (.slice a l.length c) size l (w1.heap.size + 1) W0 q1 hSW (fun k hk=> by omega) hr hs hl) (fun h k=> keepsAt_t h k) (fun W l o o' _ h ho _=> keepsAt_b W l o o' h ho) (Below.refl _ _) (fun _=> rfl)
    (fun pre W=> (W.heap[w1.heap.size]? =some (.cells #[.int .i64 (-1)] 3 (0,0))∧Below w1.heap.size w1 W)∧∀ x ∈ pre,¬ n≤x.n)
    (fun j pre W=> (∃ (p:List Span) (x:Span),j=.exit 0∧pre=p ++ [x]∧n≤x.n∧(∀ y ∈ p,¬ n≤y.n)∧W.heap[w1.heap.size]? =some (.cells #[.int .i64 x.at_] 3 (0,0)))∧Below w1.heap.size w1 W)
    ?hI ?hIx ?h0
    (fun x a' W=> ∃ Bx,w1.heap.size<Bx∧W.heap[Bx]? =some (.cells x.cells 256 (0,0))∧a'={tmps:=#[.agg #[.int .i64 size,.slice a l.length c],.int .i64 n,.int .i64 who,.pointer (some ⟨w.heap.size,0,none⟩),.pointer (some ⟨w.heap.size + 1,0,none⟩),undef,.pointer (some ⟨w.heap.size + 1 + 1,0,none⟩),.int .i64 0,.int .i64 0,.pointer (some ⟨w1.heap.size,0,none⟩),.pointer (some ⟨Bx,0,none⟩),undef,.int .i64 n,.bool false,.bool false,.agg #[.int .i64 size,.slice a l.length c],.bool true,.bool false,.bool false,undef,.agg #[.int .i64 size,.slice a l.length c],.func (.func 135) #[] #[.pointer (some ⟨w1.heap.size + 1,0,none⟩)],.agg x.cells,undef,undef,undef,undef,undef,undef,undef,undef,undef,undef,undef,undef,undef,undef,undef,undef,undef,undef,undef,undef,undef,undef,undef,undef,undef,undef,undef,undef,undef,undef,undef,undef,undef,undef,undef,undef,undef,undef,undef],defers:=[]})
    ?hAx ?assign ?body ?done ?stop
   case hI=> exact OwnFrom.and (OwnFrom.and (Go.Own.from (block_own _ (fun _=> #[.int .i64 (-1)]) _) _) (ownFrom_below (Nat.le_refl _) (by omega))) (fun _ _ _ _ h _ _=> h)
   case hIx=>
    intro j
    refine OwnFrom.and ?_ (ownFrom_below (Nat.le_refl _) (by omega))
    rintro s X Y row ⟨p,x,h1,h2,h3,h4,h5⟩ hg hr
    exact ⟨p,x,h1,h2,h3,h4,block_own w1.heap.size (fun (_:Unit)=> #[.int .i64 x.at_]) _ () X Y row h5 hg (fun r e=> (hr r e).2)⟩
   case h0=> exact ⟨⟨q0,hb0⟩,by simp⟩
   case hAx=>
    rintro x a' _ X Y row ⟨Bx,h1,h2,h3⟩ hg hr
    exact ⟨Bx,h1,block_own Bx (fun (_:Unit)=> x.cells) _ () X Y row h2 hg (fun r e=> (hr r e).2),h3⟩
   case assign=>
    rintro y pre x W K ⟨⟨hc0,hBW⟩,hno⟩ hK
    have hz:=hBW.size
    have h0:=hlt hc0
    have HK:=hU hK
    clear hK
    have hx1:=onesSpan x
    gi_wp2_with (refine wpListIn_store (t:=256) (v:=.agg x.cells) rfl rfl rfl rfl aggSpan.size (hnew W _) rfl (by simp) hx1 (splice_whole rfl) ?_;intro W2 hp2)
    have hb2:Below W.heap.size W W2:=Below.put ((Below.refl W.heap.size W).alloc (Nat.le_refl _) _) hp2 (Nat.le_refl _)
    exact HK.out _ _ (keepsFrom_below hb2) (KeepsAt.of_below hb2) ⟨⟨(hb2.block _ h0).trans hc0,Below.to hBW hb2⟩,hno⟩ ⟨W.heap.size,h0,hp2.at_,rfl⟩
   case body=>
    rintro y pre x a' W hl' ⟨r,hr'⟩ ⟨⟨hc0,hBW⟩,hno⟩ ⟨Bx,hBx,hbx,rfl⟩ hlt'
    have c0:W.cell? ⟨Bx,0,none⟩=some (.int .i64 x.at_):=hcell hbx 0
    have c1:W.cell? ⟨Bx,1,none⟩=some (.int .i64 x.n):=hcell hbx 1
    have cn:W.cell? ⟨w.heap.size + 1,0,none⟩=some (.int .i64 n):=hcell ((hBW.block _ y1).trans HN1.out) 0
    have HC0:=hU hc0
    have HBW:=hU hBW
    have HNO:=hU hno
    clear hc0 hbx hno
    by_cases hx:n≤x.n
    · gi_wp2_with (refine wpListIn_store (t:=3) (v:=.int .i64 x.at_) (off:=0) (new:=#[.int .i64 x.at_]) rfl rfl rfl rfl oneInt.size HC0.out rfl (by simp) (onesInt _) rfl ?_;intro W2 hp2;have HC02:=hU hp2.at_;have HK2:=hU (keepsFrom_put (B:=W0.heap.size) HC0.out hp2);have HB2:=hU (Below.put HBW.out hp2 (Nat.le_refl _));clear hp2)
      exact ⟨hsz ▸ HK2.out,⟨rfl,pre,x,rfl,hx,fun y hy=> by have:=HNO.out y hy;omega,HC02.out⟩,HB2.out⟩
    · gi_wp2
      exact ⟨KeepsFrom.refl _ _,KeepsAt.refl _ _,⟨HC0.out,HBW.out⟩,by
       intro y hy
       rcases List.mem_append.1 hy with h|h
       · exact HNO.out y h
       · rw [List.mem_singleton.1 h];exact hx⟩
   case done=>
    rintro D ys W hD rfl ⟨⟨hc0,hBW⟩,hno⟩ hK
    have ht:=take_none (who:=who) h1 hr hno
    have ca:W.cell? ⟨w1.heap.size,0,none⟩=some (.int .i64 (-1)):=hcell hc0 0
    have hbw:Below w.heap.size w W:=Below.to HB1.out hBW
    have HBW:=hU hbw
    have HH2:=hU ((hBW.block _ y0).trans HH1.out)
    have e0:W.cell? ⟨w.heap.size,0,none⟩=some (.int .i64 size):=hcell HH2.out 0
    have e1:W.cell? ⟨w.heap.size,1,none⟩=some (.slice a l.length c):=hcell HH2.out 1
    have HR2:=hU ((hBW.block _ y2).trans HR1.out)
    have HKD:=hU hK
    have hDl:=(Array.getElem?_eq_some_iff.1 hK).1
    clear hK hc0 hBW hbw
    repeat' (first
     |(refine wpList_store (t:=65) (v:=.agg #[.int .i64 size,.slice a l.length c]) (off:=0) (new:=#[.int .i64 size,.slice a l.length c]) rfl rfl rfl rfl aggHeap.size HR2.out rfl (by simp) (by intro u hu;simp [Value.cells] at hu;rcases hu with rfl|rfl <;> rfl) rfl ?_;intro W3 hp3;have HR3:=hU hp3.at_;have HB3:=hU (Below.put HBW.out hp3 (by omega));have HD3:=hU ((hp3.oth D (by omega)).trans HKD.out);clear hp3)
     |go_values|go_skip|go_guarded|(with_reducible refine wg ?_)|go_step|go_upon)
    rw [Exit.noGoto_ret]
    refine ⟨by simp,.inl ⟨_,_,rfl,run_takeDeferred HD3.out,?_⟩⟩
    refine ⟨_,res_cell_tmp2 Tryz.results103 aggHeap rfl ((World.putObj_heap_other (by omega)).trans HR3.out) rfl,?_⟩
    have hfin:=HB3.out.trans (belowK_b (w:=w) (Nat.le_refl _) W3 D _ (.deferred none) (by omega) HD3.out rfl rfl)
    rw [TookH,ht]
    exact ⟨_,0,rfl,HS.out.below hfin,hfin⟩
   case stop=>
    rintro D j pre W hD hpre ⟨⟨p,x,rfl,rfl,hx,hno,hc0⟩,hBW⟩ hK
    have ht:=take_some (who:=who) h1 hr hpre hno hx
    have hx0:0≤x.at_:=gaps_in l 0 (right_from hr) (Int.le_refl _) x (List.IsPrefix.mem (by simp) hpre)
    obtain ⟨t,hte⟩:∃ t,x.at_=t:=⟨_,rfl⟩
    rw [hte] at ht hx0 hc0
    have ca:W.cell? ⟨w1.heap.size,0,none⟩=some (.int .i64 t):=hcell hc0 0
    have HC0:=hU hc0
    have hbw:Below w.heap.size w W:=Below.to HB1.out hBW
    have HBW:=hU hbw
    have HH2:=hU ((hBW.block _ y0).trans HH1.out)
    have e0:W.cell? ⟨w.heap.size,0,none⟩=some (.int .i64 size):=hcell HH2.out 0
    have e1:W.cell? ⟨w.heap.size,1,none⟩=some (.slice a l.length c):=hcell HH2.out 1
    have HN2:=hU ((hBW.block _ y1).trans HN1.out)
    have HR2:=hU ((hBW.block _ y2).trans HR1.out)
    have HKD:=hU hK
    have hDl:=(Array.getElem?_eq_some_iff.1 hK).1
    clear hK hc0 hBW hbw hpre hno hx hte
    refine wpIn_wide.2 ?_
    repeat' (first|go_values|go_skip|go_guarded|(with_reducible refine wg ?_)|go_step|go_upon)
    go_loopw [11] (fun iv wr=> AheadAt W l t iv wr) (fun iv _=> l.length - (intOf iv).toNat)
    case atStart=> exact ⟨0,Nat.zero_le _,rfl,fun j x hj=> by omega,Below.refl _ _⟩
    case round=>
     obtain ⟨k,hk,rfl,hall,hbr⟩:=hrel
     have e1r:wr.cell? ⟨w.heap.size,1,none⟩=some (.slice a l.length c):=hcell ((hbr.block _ (hlt HH2.out)).trans HH2.out) 1
     have car:wr.cell? ⟨w1.heap.size,0,none⟩=some (.int .i64 t):=hcell ((hbr.block _ (hlt HC0.out)).trans HC0.out) 0
     have z1:w.heap.size<wr.heap.size:=Nat.lt_of_lt_of_le (hlt HH2.out) hbr.size
     have z2:w1.heap.size<wr.heap.size:=Nat.lt_of_lt_of_le (hlt HC0.out) hbr.size
     have HBR:=hU hbr
     have HALL:=hU hall
     clear hbr hall
     have hkw:IntKind.i64.wrap ((k:Int) + 1)=(k:Int) + 1:=by rw [IntKind.wrap_i64];omega
     by_cases hgo:k<l.length∧∀ x,l[k]? =some x→x.at_<t
     · obtain ⟨hlt',hxa⟩:=hgo
       have hkI:(k:Int)<(l.length:Int):=by omega
       obtain ⟨x,hx⟩:∃ x,l[k]? =some x:=⟨_,List.getElem?_eq_getElem hlt'⟩
       have hxt:=hxa x hx
       obtain ⟨hnl,_,_,hel⟩:=(HS.out.below (Below.to HBW.out HBR.out)).elem
       clear hnl
       obtain ⟨b,off,rfl,hbl,hcell'⟩:=hel k x hx
       have c0:wr.cell? ⟨b,off + k * 3,none⟩=some (.int .i64 x.at_):=hcell' wr (Below.refl _ _) 0 _ rfl
       clear hcell' hel hxa
       have hd:decide (x.at_<t)=true:=by simpa using hxt
       repeat' (first|go_values|go_skip|go_guarded|(with_reducible refine wg ?_)|go_step|go_upon|go_quiet (fail))
       refine ⟨⟨k + 1,by omega,by go_num,fun j y hj hy=> ?_,below_drewN HBR.out _⟩,by simp [intOf];omega⟩
       by_cases hjk:j<k
       · exact HALL.out j y hjk hy
       · obtain rfl:j=k:=by omega
         rw [hx] at hy
         injection hy with hy
         rw [← hy]
         exact hxt
     have hno:∀ x,l[k]? =some x→¬ x.at_<t:=fun x hx hxt=> hgo ⟨(List.getElem?_eq_some_iff.1 hx).1,fun y hy=> by rw [hx] at hy;injection hy with hy;rw [← hy];exact hxt⟩
     have HAH:=hU (ahead_at HALL.out hno hk)
     have hend:(∃ x,l[k]? =some x∧¬ x.at_<t)∨k=l.length:=by
      by_cases hlt':k<l.length
      · exact .inl ⟨_,List.getElem?_eq_getElem hlt',hno _ (List.getElem?_eq_getElem hlt')⟩
      · exact .inr (by omega)
     have HC0r:=hU ((HBR.out.block _ (hlt HC0.out)).trans HC0.out)
     have HH2r:=hU ((HBR.out.block _ (hlt HH2.out)).trans HH2.out)
     have HN2r:=hU ((HBR.out.block _ (hlt HN2.out)).trans HN2.out)
     have HR2r:=hU ((HBR.out.block _ (hlt HR2.out)).trans HR2.out)
     have HKDr:=hU ((HBR.out.block _ hDl).trans HKD.out)
     have HBWr:=hU (Below.to HBW.out HBR.out)
     clear hno hgo HALL
     rcases hend with ⟨x,hx,hxt⟩|hke
     case' inl=>
      have hlt':k<l.length:=(List.getElem?_eq_some_iff.1 hx).1
      have hkI:(k:Int)<(l.length:Int):=by omega
      obtain ⟨hnl,_,_,hel⟩:=(HS.out.below HBWr.out).elem
      clear hnl
      obtain ⟨b,off,ha,hbl,hcell'⟩:=hel k x hx
      have c0:wr.cell? ⟨b,off + k * 3,none⟩=some (.int .i64 x.at_):=hcell' wr (Below.refl _ _) 0 _ rfl
      clear hcell' hel
      have hd:decide (x.at_<t)=false:=by simpa using hxt
      have e1x:wr.cell? ⟨w.heap.size,1,none⟩=some (.slice (some ⟨b,off,none⟩) l.length c):=by rw [← ha];exact e1r
      clear e1r
      have HA:=hU ha
      clear ha
      repeat' (first|go_values|go_skip|go_guarded|(with_reducible refine wg ?_)|go_step|go_upon|go_quiet (fail))
      clear e1x c0
     case' inr=>
      subst hke
      have hd:decide ((l.length:Int)<(l.length:Int))=false:=by simp
      repeat' (first|go_values|go_skip|go_guarded|(with_reducible refine wg ?_)|go_step|go_upon|go_quiet (fail))
     all_goals
      have z1q:w.heap.size<(wr.drewN nq).heap.size:=z1
      have z2q:w1.heap.size<(wr.drewN nq).heap.size:=z2
      have hDr:D<(wr.drewN nq).heap.size:=Nat.lt_of_lt_of_le hDl HBR.out.size
      have HHq:Hid ((wr.drewN nq).heap[w.heap.size]? =some (.cells #[.int .i64 size,.slice a l.length c] 65 (0,0))):=HH2r
      have HNq:Hid ((wr.drewN nq).heap[w.heap.size + 1]? =some (.cells #[.int .i64 n] 3 (0,0))):=HN2r
      have HCq:Hid ((wr.drewN nq).heap[w1.heap.size]? =some (.cells #[.int .i64 t] 3 (0,0))):=HC0r
      have HRq:Hid ((wr.drewN nq).heap[w.heap.size + 1 + 1]? =some (.cells #[.int .i64 0,.slice none 0 0] 65 (0,0))):=HR2r
      have HKq:Hid ((wr.drewN nq).heap[D]? =some (.deferred (some []))):=HKDr
      have HBq:=hU (below_drewN HBWr.out nq)
      clear HH2r HN2r HC0r HR2r HKDr HBWr car hd
      generalize wr.drewN nq=wq at *
      refine wp_region_noPanic ?_
      refine RegTail.startL (st:=[11]) (S:=fun W=> W.cell? ⟨w.heap.size,0,none⟩=some (.int .i64 size)∧W.cell? ⟨w.heap.size,1,none⟩=some (.slice a l.length c)∧W.cell? ⟨w.heap.size + 1,0,none⟩=some (.int .i64 n)∧W.cell? ⟨w1.heap.size,0,none⟩=some (.int .i64 t)) (by kernel_rfl) ?_
      have hS:(fun W:World=> W.cell? ⟨w.heap.size,0,none⟩=some (.int .i64 size)∧W.cell? ⟨w.heap.size,1,none⟩=some (.slice a l.length c)∧W.cell? ⟨w.heap.size + 1,0,none⟩=some (.int .i64 n)∧W.cell? ⟨w1.heap.size,0,none⟩=some (.int .i64 t)) wq.drew:=⟨hcell HHq.out 0,hcell HHq.out 1,hcell HNq.out 0,hcell HCq.out 0⟩
      (refine RegTail.tl 0 ?_);(try simp only [RegT3.acts])
      (refine RegTail.tl 1 ?_);(try simp only [RegT3.acts])
      (refine RegTail.tl 3 ?_);(try simp only [RegT3.acts])
      (refine RegTail.tl 4 ?_);(try simp only [RegT3.acts])
      (refine RegTail.tl 5 ?_);(try simp only [RegT3.acts])
      (refine RegTail.tl 6 ?_);(try simp only [RegT3.acts])
      (refine RegTail.tl 7 ?_);(try simp only [RegT3.acts])
      refine RegTail.twoL (i:=2) (j:=8) (by kernel_rfl) rfl rfl (fun K hK=> ?_) (fun K hK=> ?_)
      refine RegTail.want rfl ?_
      go_simp
      refine (cloneSpan _ l wq.drew (HS.out.below (Below.drew HBq.out)) (by omega)).mono ?_
      rintro e w3 ⟨v1,rfl,hown,hb3⟩
      have hz3:wq.heap.size≤w3.heap.size:=hb3.size
      have hv1:v1.ownBlock ≠ some w3.heap.size:=fun e=> by have:=(World.ownsRow.lt hown _ e).2;omega
      have HH3:=hU ((hb3.block w.heap.size (by show _<wq.heap.size;omega)).trans HHq.out)
      have HN3:=hU ((hb3.block (w.heap.size + 1) (by show _<wq.heap.size;omega)).trans HNq.out)
      have HC3:=hU ((hb3.block w1.heap.size (by show _<wq.heap.size;omega)).trans HCq.out)
      have HR3:=hU ((hb3.block (w.heap.size + 1 + 1) (by show _<wq.heap.size;omega)).trans HRq.out)
      have HK3:=hU ((hb3.block D (by show _<wq.heap.size;omega)).trans HKq.out)
      have HB3:=hU (Below.to (Below.drew HBq.out) hb3)
      have ha3:Below w3.heap.size w3 (w3.alloc (.cells #[.int .i64 t,.int .i64 n,.int .i64 who] 256)):=(Below.refl _ _).alloc (Nat.le_refl _) _
      have HO3:Hid (OwnS wq.heap.size (w3.alloc (.cells #[.int .i64 t,.int .i64 n,.int .i64 who] 256)) v1 l):=hU (ownsRow_below hown ha3)
      dsimp only
      refine hK.out _ _ (fun _=> ⟨hcell HH3.out 0,hcell HH3.out 1,hcell HN3.out 0,hcell HC3.out 0⟩) ?_
      clear hK K
      (refine RegTail.ro 8 fun K hK=> ?_)
      go_simp
      refine hK.out _ _ (fun _=> ⟨(ha3.cell (p:=⟨w.heap.size,0,none⟩) (by dsimp only;omega)).trans (hcell HH3.out 0),(ha3.cell (p:=⟨w.heap.size,1,none⟩) (by dsimp only;omega)).trans (hcell HH3.out 1),(ha3.cell (p:=⟨w.heap.size + 1,0,none⟩) (by dsimp only;omega)).trans (hcell HN3.out 0),(ha3.cell (p:=⟨w1.heap.size,0,none⟩) (by dsimp only;omega)).trans (hcell HC3.out 0)⟩) ?_
      clear hK K
      (try simp only [Act.put,List.getElem_toArray,List.getElem_cons_zero,List.getElem_cons_succ,List.setIfInBounds_toArray,List.set_cons_zero,List.set_cons_succ])
      (refine RegTail.ro 9 fun K hK=> ?_)
      refine RegTail.want rfl ?_
      go_simp
      refine (insSpan v1 l _ ⟨t,n,who⟩ wq.heap.size w3.heap.size _ HO3.out (by simp only [World.size_alloc];omega) (hnew w3 _) hv1 hk (by omega)).mono ?_
      rintro e w5 ⟨v5,rfl,hown5,hb5'⟩
      have hb5:Below wq.heap.size w3 w5:=(ha3.mono hz3).trans hb5'
      clear hb5' hown hb3 ha3
      rotate_left
      go_simp
      have hab:Below wq.heap.size wq (wq.alloc (.cells #[.int .i64 t,.int .i64 n,.int .i64 who] 256)):=(Below.refl _ _).alloc (Nat.le_refl _) _
      refine hK.out _ _ (fun _=> ⟨(hab.cell (p:=⟨w.heap.size,0,none⟩) (by dsimp only;omega)).trans (hcell HHq.out 0),(hab.cell (p:=⟨w.heap.size,1,none⟩) (by dsimp only;omega)).trans (hcell HHq.out 1),(hab.cell (p:=⟨w.heap.size + 1,0,none⟩) (by dsimp only;omega)).trans (hcell HNq.out 0),(hab.cell (p:=⟨w1.heap.size,0,none⟩) (by dsimp only;omega)).trans (hcell HCq.out 0)⟩) ?_
      clear hK K
      (try simp only [Act.put,List.getElem_toArray,List.getElem_cons_zero,List.getElem_cons_succ,List.setIfInBounds_toArray,List.set_cons_zero,List.set_cons_succ])
      (refine RegTail.ro 2 fun K hK=> ?_)
      refine RegTail.want rfl ?_
      go_simp
      refine (cloneSpan _ l (wq.alloc (.cells #[.int .i64 t,.int .i64 n,.int .i64 who] 256)).drew (HS.out.below (Below.to HBq.out (Below.drew hab))) (by omega)).mono ?_
      rintro e w3 ⟨v1,rfl,hown,hb3⟩
      have hz3:wq.heap.size + 1≤w3.heap.size:=by have:=hb3.size;simpa using this
      have hv1:v1.ownBlock ≠ some wq.heap.size:=fun e=> by
       have:=(World.ownsRow.lt hown _ e).1
       simp at this
       omega
      have hx3:w3.heap[wq.heap.size]? =some (.cells #[.int .i64 t,.int .i64 n,.int .i64 who] 256 (0,0)):=(hb3.block wq.heap.size (by simp)).trans (hnew wq _)
      have hb3q:Below wq.heap.size wq w3:=Below.trans (Below.drew hab) (hb3.mono (by simp))
      have HH3:=hU ((hb3q.block w.heap.size (by omega)).trans HHq.out)
      have HN3:=hU ((hb3q.block (w.heap.size + 1) (by omega)).trans HNq.out)
      have HC3:=hU ((hb3q.block w1.heap.size (by omega)).trans HCq.out)
      have HR3:=hU ((hb3q.block (w.heap.size + 1 + 1) (by omega)).trans HRq.out)
      have HK3:=hU ((hb3q.block D (by omega)).trans HKq.out)
      have HB3:=hU (Below.to HBq.out hb3q)
      have HO3:Hid (OwnS wq.heap.size w3 v1 l):=hU (KR.Own.mono hown (by simp))
      dsimp only
      refine hK.out _ _ (fun _=> ⟨hcell HH3.out 0,hcell HH3.out 1,hcell HN3.out 0,hcell HC3.out 0⟩) ?_
      clear hK K
      (refine RegTail.ro 9 fun K hK=> ?_)
      refine RegTail.want rfl ?_
      go_simp
      refine (insSpan v1 l _ ⟨t,n,who⟩ wq.heap.size wq.heap.size _ HO3.out (by omega) hx3 hv1 hk (by omega)).mono ?_
      rintro e w5 ⟨v5,rfl,hown5,hb5⟩
      clear hown hb3 hab hb3q
      all_goals
       have hzw:=hb5.size
       have hz5:wq.heap.size≤w5.heap.size:=by omega
       have HH5:=hU ((hb5.block w.heap.size (by omega)).trans HH3.out)
       have HN5:=hU ((hb5.block (w.heap.size + 1) (by omega)).trans HN3.out)
       have HC5:=hU ((hb5.block w1.heap.size (by omega)).trans HC3.out)
       have HR5:=hU ((hb5.block (w.heap.size + 1 + 1) (by omega)).trans HR3.out)
       have HK5:=hU ((hb5.block D (by omega)).trans HK3.out)
       have HB5:Hid (Below w.heap.size w w5):=hU (HB3.out.trans (hb5.mono (by omega)))
       have HO5:=hU (hown5.sl szSpan)
       obtain ⟨a5,c5,hv5',_,_⟩:=(hown5.sl szSpan).shape
       obtain ⟨n5,hv5⟩:∃ n5,v5=.slice a5 n5 c5:=⟨_,hv5'⟩
       clear hv5'
       subst hv5
       clear hown5 hb5 HH3 HN3 HC3 HR3 HK3 HB3 HO3
       dsimp only
       refine hK.out _ _ (fun _=> ⟨hcell HH5.out 0,hcell HH5.out 1,hcell HN5.out 0,hcell HC5.out 0⟩) ?_
       clear hK K
       have hS5:(fun W:World=> W.cell? ⟨w.heap.size,0,none⟩=some (.int .i64 size)∧W.cell? ⟨w.heap.size,1,none⟩=some (.slice a l.length c)∧W.cell? ⟨w.heap.size + 1,0,none⟩=some (.int .i64 n)∧W.cell? ⟨w1.heap.size,0,none⟩=some (.int .i64 t)) w5:=⟨hcell HH5.out 0,hcell HH5.out 1,hcell HN5.out 0,hcell HC5.out 0⟩
       (refine RegTail.ro 10 fun K hK=> ?_)
       go_simp
       refine hK.out _ _ (fun _=> ⟨hcell HH5.out 0,hcell HH5.out 1,hcell HN5.out 0,hcell HC5.out 0⟩) ?_
       clear hK K
       (refine RegTail.ro 11 fun K hK=> ?_)
       refine RegTail.want rfl ?_
       refine wp_store (v:=.slice a5 n5 c5) (off:=1) (new:=#[.int .i64 size,.slice a5 n5 c5]) rfl rfl rfl oneSSpan.size HH5.out rfl (by simp) (by intro u hu;simp [Value.cells] at hu;subst hu;rfl) rfl ?_
       intro W6 hp6
       have HH6:=hU hp6.at_
       have HC6:=hU ((hp6.oth w1.heap.size (by omega)).trans HC5.out)
       have HR6:=hU ((hp6.oth (w.heap.size + 1 + 1) (by omega)).trans HR5.out)
       have HK6:=hU ((hp6.oth D (by omega)).trans HK5.out)
       have HO6:=hU (Sl.put HO5.out HH5.out hp6 (by decide))
       have HB6:=hU (Below.put HB5.out hp6 (Nat.le_refl _))
       clear hp6
       refine hK.out _ _ (fun h=> absurd h (by decide)) ?_
       clear hK K hS5 hS
       refine RegTail.doneL (by kernel_rfl) (NoPanic.normal ?_) _
       repeat' (first|go_values|go_skip|go_guarded|(with_reducible refine wg ?_)|go_step|go_upon)
       refine wp_region_noPanic ?_
       refine RegTail.startL (st:=[3,4]) (S:=fun W=> (W.cell? ⟨w.heap.size,0,none⟩=some (.int .i64 size)∧W.cell? ⟨w.heap.size,1,none⟩=some (.slice a5 n5 c5))∧W.cell? ⟨w1.heap.size,0,none⟩=some (.int .i64 t)) (by kernel_rfl) ?_
       have hS:(fun W:World=> (W.cell? ⟨w.heap.size,0,none⟩=some (.int .i64 size)∧W.cell? ⟨w.heap.size,1,none⟩=some (.slice a5 n5 c5))∧W.cell? ⟨w1.heap.size,0,none⟩=some (.int .i64 t)) W6.drew:=⟨⟨hcell HH6.out 0,hcell HH6.out 1⟩,hcell HC6.out 0⟩
       (refine RegTail.tl 0 ?_);(try simp only [RegT3.acts])
       (refine RegTail.tl 1 ?_);(try simp only [RegT3.acts])
       (refine RegTail.ro 2 fun K hK=> ?_)
       refine RegTail.want rfl ?_
       refine wp_store (v:=.agg #[.int .i64 size,.slice a5 n5 c5]) (off:=0) (new:=#[.int .i64 size,.slice a5 n5 c5]) rfl rfl rfl aggHeap.size HR6.out rfl (by simp) (by intro u hu;simp [Value.cells] at hu;rcases hu with rfl|rfl <;> rfl) rfl ?_
       intro W7 hp7
       have HH7:=hU ((hp7.oth w.heap.size (by omega)).trans HH6.out)
       have HC7:=hU ((hp7.oth w1.heap.size (by omega)).trans HC6.out)
       have HR7:=hU hp7.at_
       have HK7:=hU ((hp7.oth D (by omega)).trans HK6.out)
       have HO7:=hU (Sl.put HO6.out HR6.out hp7.of_drew (by decide))
       have HB7:=hU (Below.put HB6.out hp7.of_drew (by omega))
       clear hp7
       refine hK.out _ _ (fun _=> ⟨⟨hcell HH7.out 0,hcell HH7.out 1⟩,hcell HC7.out 0⟩) ?_
       clear hK K hS
       (refine RegTail.ro 3 fun K hK=> ?_)
       go_simp
       refine hK.out _ _ (fun h=> absurd h (by decide)) ?_
       clear hK K
       (refine RegTail.ro 4 fun K hK=> ?_)
       go_simp
       refine hK.out _ _ (fun h=> absurd h (by decide)) ?_
       clear hK K
       refine RegTail.doneL (by kernel_rfl) (NoPanic.normal ?_) _
       repeat' (first|go_values|go_skip|go_guarded|(with_reducible refine wg ?_)|go_step|go_upon)
       rw [Exit.noGoto_ret]
       refine ⟨by simp,.inl ⟨_,_,rfl,run_takeDeferred HK7.out,?_⟩⟩
       refine ⟨_,res_cell_tmp2 Tryz.results103 aggHeap rfl ((World.putObj_heap_other (by omega)).trans HR7.out) rfl,?_⟩
       have hkb:=belowK_b (n₀:=w.heap.size) (w:=w) (Nat.le_refl _) W7 D _ (.deferred none) (by omega) HK7.out rfl rfl
       rw [TookH,ht]
       refine ⟨_,t,rfl,?_,HB7.out.trans hkb⟩
       rw [show (List.takeWhile (fun s:Span=> decide (s.at_<t)) l).length=_ from HAH.out]
       exact HO7.out.stay (fun b cs hb=> World.putObj_heap_other (fun e=> by subst e;rw [HK7.out] at hb;cases hb))
theorem HTake (u:Value) (size:Int) (l:List Span) (n who:Int) (w:World) (hS:SlS w u l) (h1:1≤n) (hs0: -9223372036854775808≤size) (hs:size≤9223372036854775807) (hl:l.length≤1000000):
 Calls Tryz.prog 103 #[.agg #[.int .i64 size,u],.int .i64 n,.int .i64 who] w (TookH size l n who w):=by
 obtain ⟨a,c,rfl,_,_⟩:=hS.shape
 exact (callsIn_wide (n:=3)).1 (HTake_in 3 (by omega) a c size l n who w hS h1 hs0 hs hl)
end Kn
end Go.Proofs.YthgehdghihbiaaaGreatDoor
