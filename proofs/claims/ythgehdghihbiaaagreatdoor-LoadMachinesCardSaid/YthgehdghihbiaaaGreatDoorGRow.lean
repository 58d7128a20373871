/- What three types of rows have in common. No condition. slices.Insert of one element, at Alarm, Proc and Span: it stands at its place. Conditions: the slice is the call's own; the element lies in another block; as many as Go can hold. slices.IndexFunc and slices.DeleteFunc at Alarm, Proc, Span and Chan: the first place; those of which nothing holds stay, in their order. Conditions: what is asked answers, and writes nothing of what there was; the slice that is turned is the call's own. -/
import Derived.Test.YthgehdghihbiaaaGreatDoorG1
set_option linter.unusedVariables false
set_option maxRecDepth 100000
set_option maxHeartbeats 8000000
set_option linter.unusedSimpArgs false
namespace Go.Proofs.YthgehdghihbiaaaGreatDoor
open Go.RowKit KR
namespace Kn
structure RT (α:Type) (T S:TypeId) (n nb:Nat) (f:α→Array Value) (z:Array Value):Prop where
 sz:∀ x,(f x).size=n
 ones:∀ x,∀ u ∈ (f x).toList,u.oneCell'=true
 agg:Agg Tryz.prog T n
 und:Tryz.prog.underlying S=some (.slice T)
 info:(Tryz.prog.info? T).map (fun i=> (i.zero.map (·.cells.size),i.size,i.bytes))=some (some n,n,nb)
 zero:∀ W,(zeroValue T).run Tryz.prog W=.ok (.agg z) W
 zo:(z.toList.all fun x=> x.oneCell')=true
 zs:z.size=n
 by1:nb=16∨nb=24∨nb=168∨nb=40
 n1:0<n
theorem rtAlarm:RT Alarm 230 61 2 16 Alarm.cells (Alarm.cells ⟨0,0⟩):=⟨szAlarm,onesAlarm,aggAlarm,Tryz.underlying61,by kernel_rfl,zeroAlarm,by decide,by decide,by decide,by decide⟩
theorem rtProc:RT Proc 220 57 26 168 Proc.cells Proc.zero.cells:=⟨szProc,onesProc,aggProc,Tryz.underlying57,by kernel_rfl,zeroProc,by decide,by decide,by decide,by decide⟩
theorem rtSpan:RT Span 256 63 3 24 Span.cells (Span.cells ⟨0,0,0⟩):=⟨szSpan,onesSpan,aggSpan,Tryz.underlying63,by kernel_rfl,zeroSpan,by decide,by decide,by decide,by decide⟩
theorem rtChan:RT Chan 101 25 5 40 Chan.cells (Chan.cells ⟨0,0,0,0,0⟩):=⟨szChan,onesChan,aggChan,Tryz.underlying25,by kernel_rfl,zeroChan,by decide,by decide,by decide,by decide⟩
def InsAtEnd (S:TypeId) (F:FuncId):Prop:=∀ (a:Option Addr) (len c xb:Nat) (v':Value) (w W':World),len≤c→c≤9223372036854775807→(Builtin.append_ #[S,S] S #[.slice a len c,.slice (some ⟨xb,0,none⟩) 1 1]).run Tryz.prog w=.ok v' W'→
 Calls Tryz.prog F #[.slice a len c,.int .i64 len,.slice (some ⟨xb,0,none⟩) 1 1] w (fun e w'=> e=.returned v'∧w'=W')
def InsRoom (S:TypeId) (n:Nat) (F OV:FuncId):Prop:=∀ (g i len cp xb:Nat) (w W1 W2:World),i<len→len + 1≤cp→cp≤9223372036854775807→len≤34359738368→
 (∀ lb cb,(callFunc OV #[.slice (some ⟨xb,0,none⟩) 1 1,.slice (some ⟨g,(i + 1) * n,none⟩) lb cb]).run Tryz.prog w=.ok (.value (.bool false)) w)→
 (Builtin.copy_ #[S,S] 3 #[.slice (some ⟨g,(i + 1) * n,none⟩) (len - i) (cp - (i + 1)),.slice (some ⟨g,i * n,none⟩) (len + 1 - i) (cp - i)]).run Tryz.prog w.drew=.ok (goInt ((len - i:Nat):Int)) W1→
 (Builtin.copy_ #[S,S] 3 #[.slice (some ⟨g,i * n,none⟩) (len + 1 - i) (cp - i),.slice (some ⟨xb,0,none⟩) 1 1]).run Tryz.prog W1=.ok (goInt (1:Nat)) W2→
 Calls Tryz.prog F #[.slice (some ⟨g,0,none⟩) len cp,.int .i64 i,.slice (some ⟨xb,0,none⟩) 1 1] w (fun e w'=> e=.returned (.slice (some ⟨g,0,none⟩) (len + 1) cp)∧w'=W2)
def InsGrow (S:TypeId) (n:Nat) (F:FuncId):Prop:=∀ (g i len cp G xb:Nat) (w W1 W2 W3:World),i<len→len≤cp→¬ len + 1≤cp→cp≤9223372036854775807→len + 1≤G→G≤9223372036854775807→len≤34359738368→
 (Builtin.append_ #[S,3] S #[.slice (some ⟨g,0,none⟩) i cp,.int .i64 ((len + 1 - i:Nat):Int)]).run Tryz.prog w=.ok (.slice (some ⟨w.heap.size,0,none⟩) (len + 1) G) W1→
 (Builtin.copy_ #[S,S] 3 #[.slice (some ⟨w.heap.size,i * n,none⟩) (len + 1 - i) (G - i),.slice (some ⟨xb,0,none⟩) 1 1]).run Tryz.prog W1=.ok (goInt (1:Nat)) W2→
 (Builtin.copy_ #[S,S] 3 #[.slice (some ⟨w.heap.size,(i + 1) * n,none⟩) (len - i) (G - (i + 1)),.slice (some ⟨g,i * n,none⟩) (len - i) (cp - i)]).run Tryz.prog W2.drew=.ok (goInt ((len - i:Nat):Int)) W3→
 Calls Tryz.prog F #[.slice (some ⟨g,0,none⟩) len cp,.int .i64 i,.slice (some ⟨xb,0,none⟩) 1 1] w (fun e w'=> e=.returned (.slice (some ⟨w.heap.size,0,none⟩) (len + 1) G)∧w'=W3)
theorem insWE:InsAtEnd 57 123∧InsAtEnd 63 116:=by
 refine ⟨?_,?_⟩
 all_goals
  intro a len c xb v' w W' hnc hmax hrun
  have HRUN:=hU hrun
  clear hrun
  go_in
  repeat' (first|(at_builtin;refine wpList_append_run _ rfl _ _ _ _ rfl _ _ rfl rfl _ _ HRUN.out ?_)|go_values|go_skip|go_guarded|(with_reducible refine wg ?_)|go_step|go_upon)
  go_ret
  exact ⟨rfl,rfl⟩
theorem insWR:InsRoom 57 26 123 141∧InsRoom 63 3 116 137:=by
 refine ⟨?_,?_⟩
 all_goals
  intro g i len cp xb w W1 W2 hil hroom hcm hn hov hc1 hc2
  have HOV:=hU hov
  have HC1:=hU hc1
  have HC2:=hU hc2
  clear hov hc1 hc2
  have hz2:¬ ((i:Int)=(len:Int)):=by omega
  have hz3:¬ ((cp:Int)<(len:Int) + 1):=by omega
  have hw1:IntKind.i64.wrap ((i:Int) + 1)=(i:Int) + 1:=by rw [IntKind.wrap_i64];omega
  have hw2:IntKind.i64.wrap ((len:Int) + 1)=(len:Int) + 1:=by rw [IntKind.wrap_i64];omega
  have hb1:(0:Int)≤(i:Int) + 1:=by omega
  have hb2:((i:Int) + 1).toNat=i + 1:=by omega
  have hb3:((len:Int) + 1).toNat=len + 1:=by omega
  have hb4:(0:Int)≤(len:Int) + 1:=by omega
  have hb5:(i:Int) + 1≤(len:Int) + 1:=by omega
  have hb6:(len:Int) + 1≤(cp:Int):=by omega
  have hb7:(i:Int)≤(len:Int):=by omega
  have hb8:(i:Int)≤(len:Int) + 1:=by omega
  have hq1:¬ cp=i + 1:=by omega
  have hq2:¬ cp=i:=by omega
  go_in
  repeat' (first|(rw [HOV.out])|go_values|go_skip|go_guarded|(with_reducible refine wg ?_)|go_step|go_upon)
  refine wp_region_noPanic ?_
  refine RegTail.startL (st:=[8]) (S:=fun _=> True) (by kernel_rfl) ?_
  (refine RegTail.tl 0 ?_);(try simp only [RegT3.acts])
  (refine RegTail.tl 1 ?_);(try simp only [RegT3.acts])
  (refine RegTail.tl 2 ?_);(try simp only [RegT3.acts])
  (refine RegTail.tl 3 ?_);(try simp only [RegT3.acts])
  (refine RegTail.tl 4 ?_);(try simp only [RegT3.acts])
  (refine RegTail.tl 5 ?_);(try simp only [RegT3.acts])
  (refine RegTail.tl 6 ?_);(try simp only [RegT3.acts])
  (refine RegTail.tl 7 ?_);(try simp only [RegT3.acts])
  (refine RegTail.ro 8 fun K hK=> ?_)
  refine step_copy_run rfl _ _ _ _ rfl _ _ rfl rfl HC1.out ?_
  refine hK.out _ _ (fun _=> trivial) ?_
  clear hK K
  refine RegTail.doneL (by kernel_rfl) (NoPanic.normal ?_) _
  repeat' (first|go_values|go_skip|go_guarded|(with_reducible refine wg ?_)|go_step|go_upon|(rw [HC2.out]))
  go_ret
  exact ⟨rfl,rfl⟩
theorem insWG:InsGrow 57 26 123∧InsGrow 63 3 116:=by
 refine ⟨?_,?_⟩
 all_goals
  intro g i len cp G xb w W1 W2 W3 hil hnc hroom hcm hG1 hG3 hn hrz hc1 hc2
  have HRZ:=hU hrz
  have HC1:=hU hc1
  have HC2:=hU hc2
  clear hrz hc1 hc2
  have hz2:¬ ((i:Int)=(len:Int)):=by omega
  have hz3:(cp:Int)<(len:Int) + 1:=by omega
  have hw1:IntKind.i64.wrap ((i:Int) + 1)=(i:Int) + 1:=by rw [IntKind.wrap_i64];omega
  have hw2:IntKind.i64.wrap ((len:Int) + 1)=(len:Int) + 1:=by rw [IntKind.wrap_i64];omega
  have hw3:(len:Int) + 1 - (i:Int)=((len + 1 - i:Nat):Int):=by omega
  have hw4:IntKind.i64.wrap ((len + 1 - i:Nat):Int)=((len + 1 - i:Nat):Int):=by rw [IntKind.wrap_i64];omega
  have hb1:(0:Int)≤(i:Int) + 1:=by omega
  have hb2:((i:Int) + 1).toNat=i + 1:=by omega
  have hb5:(i:Int) + 1≤(len:Int) + 1:=by omega
  have hb7:(i:Int)≤(len:Int):=by omega
  have hb8:(i:Int)≤(len:Int) + 1:=by omega
  have hb9:(i:Int)≤(cp:Int):=by omega
  have hq1:¬ G=i + 1:=by omega
  have hq2:¬ G=i:=by omega
  have hq3:¬ cp=i:=by omega
  go_in
  repeat' (first|(at_builtin;refine wpList_append_run _ rfl _ _ _ _ rfl _ _ rfl rfl _ _ HRZ.out ?_)|go_values|go_skip|go_guarded|(with_reducible refine wg ?_)|go_step|go_upon|(rw [HC1.out]))
  refine wp_region_noPanic ?_
  refine RegTail.startL (st:=[8]) (S:=fun _=> True) (by kernel_rfl) ?_
  (refine RegTail.tl 0 ?_);(try simp only [RegT3.acts])
  (refine RegTail.tl 1 ?_);(try simp only [RegT3.acts])
  (refine RegTail.tl 2 ?_);(try simp only [RegT3.acts])
  (refine RegTail.tl 3 ?_);(try simp only [RegT3.acts])
  (refine RegTail.tl 4 ?_);(try simp only [RegT3.acts])
  (refine RegTail.tl 5 ?_);(try simp only [RegT3.acts])
  (refine RegTail.tl 6 ?_);(try simp only [RegT3.acts])
  (refine RegTail.tl 7 ?_);(try simp only [RegT3.acts])
  (refine RegTail.ro 8 fun K hK=> ?_)
  refine step_copy_run rfl _ _ _ _ rfl _ _ rfl rfl HC2.out ?_
  refine hK.out _ _ (fun _=> trivial) ?_
  clear hK K
  refine RegTail.doneL (by kernel_rfl) (NoPanic.normal ?_) _
  repeat' (first|go_values|go_skip|go_guarded|(with_reducible refine wg ?_)|go_step|go_upon)
  go_ret
  exact ⟨rfl,rfl⟩
section
variable {α:Type} {T S:TypeId} {n nb:Nat} {f:α→Array Value} {z0:Array Value}
theorem insEndG (rt:RT α T S n nb f z0) (v:Value) (l:List α) (x:α) (B xb:Nat) (w:World) (h:Own T n f B w v l) (hB:B≤w.heap.size) (hx:w.heap[xb]? =some (.cells (f x) T (0,0))) (hn:l.length≤34359738368):
 ∃ v' W',(Builtin.append_ #[S,S] S #[v,.slice (some ⟨xb,0,none⟩) 1 1]).run Tryz.prog w=.ok v' W'∧Own T n f B W' v' (l ++ [x])∧Below B w W':=by
 have hi:=rt.info
 obtain ⟨i,z,hi0,hz,hzs,hs,hby⟩:=info_cells hi
 obtain ⟨v',W',hrun,hown',hgrow,_⟩:=run_append_own (P:=Tryz.prog) w B S S T i z n nb rt.und hi0 hz hs hby hzs rt.n1 v l.length (flat f l) h ⟨xb,0,none⟩ 1 1 (f x).toList (by rw [Array.length_toList,rt.sz,Nat.one_mul])
  (by intro j u hj;rw [add0,Nat.zero_add,hcell hx];simpa using hj) (rt.ones x) (by unfold maxLen;omega) (by rcases rt.by1 with h|h|h|h <;> rw [h] <;> omega) hB
 refine ⟨v',W',hrun,?_,⟨hgrow.os,hgrow.tape,hgrow.output,hgrow.size,fun k hk=> ?_⟩⟩
 · unfold Own
   rw [flat_append,List.length_append]
   simpa [flat] using hown'
 · rw [hgrow.block k (by omega) (fun e=> by
    have:=(World.ownsRow.lt h k e.symm).1
    omega)]
theorem insG (rt:RT α T S n nb f z0) {F OV:FuncId} (hO:∀ args w,(callFunc OV args).run Tryz.prog w=((Extern.SlicesOverlaps.overlaps #[S,S] #[4] args).run Tryz.prog w).andThen fun v w'=> .ok (.value v) w') (hE:InsAtEnd S F) (hR:InsRoom S n F OV) (hG:InsGrow S n F)
 (v:Value) (l:List α) (i:Nat) (x:α) (B xb:Nat) (w:World) (h:Own T n f B w v l) (hB:B≤w.heap.size) (hx:w.heap[xb]? =some (.cells (f x) T (0,0))) (hne:v.ownBlock ≠ some xb) (hi:i≤l.length) (hn:l.length≤34359738368):
 Calls Tryz.prog F #[v,.int .i64 i,.slice (some ⟨xb,0,none⟩) 1 1] w (fun e w'=> ∃ v',e=.returned v'∧Own T n f B w' v' (ins l i x)∧Below B w w'):=by
 by_cases hil:i=l.length
 · obtain ⟨v',W',hrun,hown,hbel⟩:=insEndG rt v l x B xb w h hB hx hn
   obtain ⟨a,c,rfl,hnc,hmax⟩:=(h.sl rt.sz).shape
   have hins:ins l l.length x=l ++ [x]:=by rw [ins,List.take_length,List.drop_length]
   subst hil
   refine (hE a l.length c xb v' w W' hnc hmax hrun).mono ?_
   rintro e w' ⟨rfl,rfl⟩
   exact ⟨_,rfl,by rw [hins];exact hown,hbel⟩
 · have hil:i<l.length:=by omega
   obtain ⟨g,cp,cur,rfl,hBg,hrow⟩:=h.row (by intro e;subst e;simp at hil)
   have hcm:=hrow.2.2.1
   have hnc:=hrow.2.1
   unfold maxLen at hcm
   have hcs:=hrow.2.2.2.1
   have hgl:=hlt hrow.1
   have hxl:=hlt hx
   have hgx:xb ≠ g:=fun e=> hne (by rw [e];rfl)
   have hdl:(flat f (l.drop i)).length=(l.length - i) * n:=by rw [flat_length rt.sz,List.length_drop]
   have hmul:(l.length + 1) * n=i * n + n + (l.length - i) * n:=by rw [show l.length + 1=i + 1 + (l.length - i) by omega,Nat.add_mul,Nat.add_mul,Nat.one_mul]
   have hflat:cur.toList.take (i * n)=(flat f l).take (i * n):=by
    rw [← hrow.2.2.2.2,List.take_take,Nat.min_eq_left (Nat.mul_le_mul_right _ (by omega))]
   by_cases hroom:l.length + 1≤cp
   · have hfit:i * n + n + (l.length - i) * n≤cur.size:=by
      rw [hcs,← hmul]
      exact Nat.mul_le_mul_right _ hroom
     have hsa:w.shape? xb=some (T,n):=by simp [World.shape?,hx,rt.sz]
     have hsb:w.shape? g=some (T,cp * n):=by simp [World.shape?,hrow.1,hcs]
     have hkB:cp * n ≠ 0:=Nat.mul_ne_zero (by omega) (Nat.ne_of_gt rt.n1)
     have hov:∀ lb cb,(callFunc OV #[.slice (some ⟨xb,0,none⟩) 1 1,.slice (some ⟨g,(i + 1) * n,none⟩) lb cb]).run Tryz.prog w=.ok (.value (.bool false)) w:=fun lb cb=> by
      rw [hO,
       Lib.run_overlaps_apart w S 4 T rt.und n rt.agg.size ⟨xb,0,none⟩ ⟨g,(i + 1) * n,none⟩ 1 1 lb cb hgx _ _ _ _ hsa hsb hkB (Lib.frozen_of_heap hx 0) (Lib.frozen_of_heap hx _)]
      rfl
     have hxs:=rt.sz x
     have hDs:(flat f (l.drop i)).toArray.size=(l.length - i) * n:=by rw [List.size_toArray];exact hdl
     have hW:Put g (splice cur (i * n + n) (flat f (l.drop i)).toArray) T w (w.drew.setRow g (splice cur (i * n + n) (flat f (l.drop i)).toArray)):=Put.of_drew (put_row (W:=w.drew) hrow.1)
     have hc1:∀ dc sc,(Builtin.copy_ #[S,S] 3 #[.slice (some ⟨g,(i + 1) * n,none⟩) (l.length - i) dc,.slice (some ⟨g,i * n,none⟩) (l.length + 1 - i) sc]).run Tryz.prog w.drew=.ok (goInt ((l.length - i:Nat):Int)) (w.drew.setRow g (splice cur (i * n + n) (flat f (l.drop i)).toArray)):=fun dc sc=> by
      have h1:=run_copyN (P:=Tryz.prog) w.drew S S 3 T g ((i + 1) * n) (l.length - i) dc ⟨g,i * n,none⟩ (l.length + 1 - i) sc n (l.length - i) cur T (flat f (l.drop i)) rt.und rt.agg.size hrow.1 (by simp only [Nat.min_def];split <;> omega) hdl
       (fun j u hj=> by
         rw [add0]
         show w.cell? _=_
         rw [hcell hrow.1]
         have h2:(flat f l)[i * n + j]? =some u:=by rw [← List.getElem?_drop,flat_drop rt.sz l i hi];exact hj
         rw [← hrow.2.2.2.2,List.getElem?_take] at h2
         split at h2
         · simpa using h2
         · cases h2)
       (by rw [hdl,Nat.add_mul];omega) (flat_ones rt.ones _)
      rw [Nat.add_mul,Nat.one_mul] at h1
      rw [Nat.add_mul,Nat.one_mul]
      exact h1
     generalize hW1:w.drew.setRow g (splice cur (i * n + n) (flat f (l.drop i)).toArray)=W1 at hW hc1
     have hsz1:(splice cur (i * n + n) (flat f (l.drop i)).toArray).size=cur.size:=splice_size (by rw [hDs];omega)
     have hW2:Put g (splice (splice cur (i * n + n) (flat f (l.drop i)).toArray) (i * n) (f x)) T W1 (W1.setRow g (splice (splice cur (i * n + n) (flat f (l.drop i)).toArray) (i * n) (f x))):=put_row hW.at_
     have hc2:∀ dc,(Builtin.copy_ #[S,S] 3 #[.slice (some ⟨g,i * n,none⟩) (l.length + 1 - i) dc,.slice (some ⟨xb,0,none⟩) 1 1]).run Tryz.prog W1=.ok (goInt (1:Nat)) (W1.setRow g (splice (splice cur (i * n + n) (flat f (l.drop i)).toArray) (i * n) (f x))):=fun dc=> by
      have h1:=run_copyN (P:=Tryz.prog) W1 S S 3 T g (i * n) (l.length + 1 - i) dc ⟨xb,0,none⟩ 1 1 n 1 _ T (f x).toList rt.und rt.agg.size hW.at_ (by simp only [Nat.min_def];split <;> omega) (by rw [Array.length_toList,hxs,Nat.one_mul])
       (fun j u hj=> by rw [add0,Nat.zero_add,hcell ((hW.oth xb hgx).trans hx)];simpa using hj)
       (by rw [Array.length_toList,hxs,hsz1];omega) (rt.ones x)
      rwa [Array.toArray_toList] at h1
     have hrow2:Row T n f (W1.setRow g (splice (splice cur (i * n + n) (flat f (l.drop i)).toArray) (i * n) (f x))) g cp (l.take i ++ x::l.drop i) _:=row_ins rt.sz hi hW2.at_ hroom hrow.2.2.1 (by rw [splice_size (by rw [hxs,hsz1];omega),hsz1];exact hcs) (by
      have h3:=ins_cells2 (cur:=cur) (X:=f x) (D:=(flat f (l.drop i)).toArray) (a:=i * n) (by rw [hxs,hDs];exact hfit)
      rw [hxs,hDs] at h3
      rw [h3,hflat,flat_drop rt.sz l i hi])
     have HOWN:Hid (Own T n f B _ (.slice (some ⟨g,0,none⟩) (l.length + 1) cp) (ins l i x)):=hU (by
      have h4:=hrow2.own rt.sz hBg
      rwa [show (l.take i ++ x::l.drop i).length=l.length + 1 by rw [List.length_append,List.length_cons,List.length_take,List.length_drop];omega] at h4)
     have HBEL:=hU (Below.put (Below.put (Below.refl B w) hW hBg) hW2 hBg)
     generalize W1.setRow g _=W2 at *
     refine (hR g i l.length cp xb w W1 W2 hil hroom hcm hn hov (hc1 _ _) (hc2 _)).mono ?_
     rintro e w' ⟨rfl,rfl⟩
     exact ⟨_,rfl,HOWN.out,HBEL.out⟩
   · have hi0:=rt.info
     obtain ⟨i0,z,hi0,hz,hzs,hs,hby⟩:=info_cells hi0
     have hzo:=zeros_ones (n:=l.length + 1 - i) (z:=z.cells) (by
      have h1:=rt.zero w
      simp [zeroValue,typeInfo,hi0,hz] at h1
      rw [h1]
      exact rt.zo)
     have hold:(Builtin.firstCells i0.size i (.slice (some ⟨g,0,none⟩) i cp)).run Tryz.prog w.drew=.ok (flat f (l.take i)).toArray w.drew:=by
      rw [hs]
      exact run_firstCells_some w.drew n i ⟨g,0,none⟩ i cp (flat f (l.take i)) (by rw [flat_length rt.sz,List.length_take,Nat.min_eq_left hi]) (fun j u hj=> by
       rw [add0,Nat.zero_add]
       show w.cell? _=_
       rw [hcell hrow.1]
       rw [← flat_take rt.sz l i hi,← hflat,List.getElem?_take] at hj
       split at hj
       · simpa using hj
       · cases hj)
     have hrz:=Lib.run_append_grow_zeros (P:=Tryz.prog) w S 3 S T i0 z .i64 .i64 rt.und Tryz.underlying3 hi0 hz (some ⟨g,0,none⟩) i cp (flat f (l.take i)) hold (l.length + 1 - i) (by omega) (by rw [hs];exact rt.n1) (by omega) (by omega) (by rw [hby];rcases rt.by1 with h|h|h|h <;> rw [h] <;> omega) (by rw [hby];rcases rt.by1 with h|h|h|h <;> rw [h] <;> exact growslice_fits (by omega) (by omega))
     have hik:i + (l.length + 1 - i)=l.length + 1:=by omega
     rw [hik] at hrz
     have hG1:=grownCap_ge w (l.length + 1) cp T
     have hG2:=grownCap_le_maxLen w (l.length + 1) cp T (by unfold maxLen;omega)
     generalize grownCap w (l.length + 1) cp T=G at hrz hG1 hG2
     have hG3:G≤9223372036854775807:=by unfold maxLen at hG2;omega
     have hRs:((flat f (l.take i)).toArray ++ Builtin.zeroCells z.cells (l.length + 1 - i) ++ Builtin.zeroCells z.cells (G - (l.length + 1))).size=G * n:=by
      rw [Array.size_append,Array.size_append,size_zeroCells,size_zeroCells,hzs,List.size_toArray,flat_length rt.sz,List.length_take,Nat.min_eq_left hi,← Nat.add_mul,← Nat.add_mul]
      congr 1
      omega
     have hRt:((flat f (l.take i)).toArray ++ Builtin.zeroCells z.cells (l.length + 1 - i) ++ Builtin.zeroCells z.cells (G - (l.length + 1))).toList.take (i * n)=(flat f l).take (i * n):=by
      rw [Array.toList_append,Array.toList_append,List.append_assoc,List.toList_toArray,List.take_left' (by rw [flat_length rt.sz,List.length_take,Nat.min_eq_left hi]),flat_take rt.sz l i hi]
     generalize (flat f (l.take i)).toArray ++ Builtin.zeroCells z.cells (l.length + 1 - i) ++ Builtin.zeroCells z.cells (G - (l.length + 1))=R at hrz hRs hRt
     have hR1:(w.drew.alloc (.cells R T)).heap[w.heap.size]? =some (.cells R T (0,0)):=heap_alloc_new w.drew _
     have hRo:∀ k,k<w.heap.size→(w.drew.alloc (.cells R T)).heap[k]? =w.heap[k]? :=fun k hk=> Lib.alloc_old w.drew _ k hk
     have hRb:Below w.heap.size w (w.drew.alloc (.cells R T)):=⟨rfl,rfl,rfl,by simp,fun k hk=> hRo k hk⟩
     generalize w.drew.alloc (.cells R T)=W1 at hrz hR1 hRo hRb
     have hxs:=rt.sz x
     have hDs:(flat f (l.drop i)).toArray.size=(l.length - i) * n:=by rw [List.size_toArray];exact hdl
     have hfit:i * n + n + (l.length - i) * n≤R.size:=by
      rw [hRs,← hmul]
      exact Nat.mul_le_mul_right _ hG1
     have hW2:Put w.heap.size (splice R (i * n) (f x)) T W1 (W1.setRow w.heap.size (splice R (i * n) (f x))):=put_row hR1
     have hc1:∀ dc,(Builtin.copy_ #[S,S] 3 #[.slice (some ⟨w.heap.size,i * n,none⟩) (l.length + 1 - i) dc,.slice (some ⟨xb,0,none⟩) 1 1]).run Tryz.prog W1=.ok (goInt (1:Nat)) (W1.setRow w.heap.size (splice R (i * n) (f x))):=fun dc=> by
      have h1:=run_copyN (P:=Tryz.prog) W1 S S 3 T w.heap.size (i * n) (l.length + 1 - i) dc ⟨xb,0,none⟩ 1 1 n 1 _ T (f x).toList rt.und rt.agg.size hR1 (by simp only [Nat.min_def];split <;> omega) (by rw [Array.length_toList,hxs,Nat.one_mul])
       (fun j u hj=> by rw [add0,Nat.zero_add,hcell ((hRo xb hxl).trans hx)];simpa using hj)
       (by rw [Array.length_toList,hxs];omega) (rt.ones x)
      rwa [Array.toArray_toList] at h1
     generalize W1.setRow w.heap.size (splice R (i * n) (f x))=W2 at hW2 hc1
     have hsz1:(splice R (i * n) (f x)).size=R.size:=splice_size (by rw [hxs];omega)
     have hW3:Put w.heap.size (splice (splice R (i * n) (f x)) (i * n + n) (flat f (l.drop i)).toArray) T W2 (W2.drew.setRow w.heap.size (splice (splice R (i * n) (f x)) (i * n + n) (flat f (l.drop i)).toArray)):=Put.of_drew (put_row (W:=W2.drew) hW2.at_)
     have hc2:∀ dc sc,(Builtin.copy_ #[S,S] 3 #[.slice (some ⟨w.heap.size,(i + 1) * n,none⟩) (l.length - i) dc,.slice (some ⟨g,i * n,none⟩) (l.length - i) sc]).run Tryz.prog W2.drew=.ok (goInt ((l.length - i:Nat):Int)) (W2.drew.setRow w.heap.size (splice (splice R (i * n) (f x)) (i * n + n) (flat f (l.drop i)).toArray)):=fun dc sc=> by
      have h1:=run_copyN (P:=Tryz.prog) W2.drew S S 3 T w.heap.size ((i + 1) * n) (l.length - i) dc ⟨g,i * n,none⟩ (l.length - i) sc n (l.length - i) _ T (flat f (l.drop i)) rt.und rt.agg.size hW2.at_ (by simp only [Nat.min_def];split <;> omega) hdl
       (fun j u hj=> by
         rw [add0]
         show W2.cell? _=_
         rw [hcell ((hW2.oth g (by omega)).trans ((hRo g hgl).trans hrow.1))]
         have h2:(flat f l)[i * n + j]? =some u:=by rw [← List.getElem?_drop,flat_drop rt.sz l i hi];exact hj
         rw [← hrow.2.2.2.2,List.getElem?_take] at h2
         split at h2
         · simpa using h2
         · cases h2)
       (by rw [hdl,hsz1,Nat.add_mul];omega) (flat_ones rt.ones _)
      rw [Nat.add_mul,Nat.one_mul] at h1
      rw [Nat.add_mul,Nat.one_mul]
      exact h1
     have hrow2:Row T n f (W2.drew.setRow w.heap.size (splice (splice R (i * n) (f x)) (i * n + n) (flat f (l.drop i)).toArray)) w.heap.size G (l.take i ++ x::l.drop i) _:=row_ins rt.sz hi hW3.at_ hG1 hG2 (by rw [splice_size (by rw [hDs,hsz1];omega),hsz1];exact hRs) (by
      have h3:=ins_cells1 (cur:=R) (X:=f x) (D:=(flat f (l.drop i)).toArray) (a:=i * n) (by rw [hxs,hDs];exact hfit)
      rw [hxs,hDs] at h3
      rw [h3,hRt,flat_drop rt.sz l i hi])
     have HOWN:Hid (Own T n f B _ (.slice (some ⟨w.heap.size,0,none⟩) (l.length + 1) G) (ins l i x)):=hU (by
      have h4:=hrow2.own rt.sz hB
      rwa [show (l.take i ++ x::l.drop i).length=l.length + 1 by rw [List.length_append,List.length_cons,List.length_take,List.length_drop];omega] at h4)
     have HBEL:Hid (Below B w _):=hU (Below.put (Below.put (hRb.mono hB) hW2 hB) hW3 hB)
     generalize W2.drew.setRow w.heap.size (splice (splice R (i * n) (f x)) (i * n + n) (flat f (l.drop i)).toArray)=W3 at *
     refine (hG g i l.length cp G xb w W1 W2 W3 hil hnc hroom hcm hG1 hG3 hn hrz (hc1 _) (hc2 _ _)).mono ?_
     rintro e w' ⟨rfl,rfl⟩
     exact ⟨_,rfl,HOWN.out,HBEL.out⟩
end
theorem insProc (v:Value) (l:List (Proc)) (i:Nat) (x:Proc) (B xb:Nat) (w:World) (h:Own 220 26 Proc.cells B w v l) (hB:B≤w.heap.size) (hx:w.heap[xb]? =some (.cells (Proc.cells x) 220 (0,0))) (hne:v.ownBlock ≠ some xb) (hi:i≤l.length) (hn:l.length≤34359738368):
 Calls Tryz.prog 123 #[v,.int .i64 i,.slice (some ⟨xb,0,none⟩) 1 1] w (fun e w'=> ∃ v',e=.returned v'∧Own 220 26 Proc.cells B w' v' (ins l i x)∧Below B w w'):=insG rtProc (run_callFunc_extern Tryz.func141 (by kernel_rfl) (by kernel_rfl) (by kernel_rfl) (by kernel_rfl)) insWE.1 insWR.1 insWG.1 v l i x B xb w h hB hx hne hi hn
theorem insEndProc (v:Value) (l:List (Proc)) (x:Proc) (B xb:Nat) (w:World) (h:Own 220 26 Proc.cells B w v l) (hB:B≤w.heap.size) (hx:w.heap[xb]? =some (.cells (Proc.cells x) 220 (0,0))) (hn:l.length≤34359738368):
 ∃ v' W',(Builtin.append_ #[57,57] 57 #[v,.slice (some ⟨xb,0,none⟩) 1 1]).run Tryz.prog w=.ok v' W'∧Own 220 26 Proc.cells B W' v' (l ++ [x])∧Below B w W':=insEndG rtProc v l x B xb w h hB hx hn
theorem insSpan (v:Value) (l:List (Span)) (i:Nat) (x:Span) (B xb:Nat) (w:World) (h:Own 256 3 Span.cells B w v l) (hB:B≤w.heap.size) (hx:w.heap[xb]? =some (.cells (Span.cells x) 256 (0,0))) (hne:v.ownBlock ≠ some xb) (hi:i≤l.length) (hn:l.length≤34359738368):
 Calls Tryz.prog 116 #[v,.int .i64 i,.slice (some ⟨xb,0,none⟩) 1 1] w (fun e w'=> ∃ v',e=.returned v'∧Own 256 3 Span.cells B w' v' (ins l i x)∧Below B w w'):=insG rtSpan (run_callFunc_extern Tryz.func137 (by kernel_rfl) (by kernel_rfl) (by kernel_rfl) (by kernel_rfl)) insWE.2 insWR.2 insWG.2 v l i x B xb w h hB hx hne hi hn
end Kn
end Go.Proofs.YthgehdghihbiaaaGreatDoor
namespace Go.Proofs.YthgehdghihbiaaaGreatDoor
open Go.RowKit KR
namespace Kn
def IdxS (T:TypeId) (n:Nat) (F0:FuncId):Prop:=∀ (α:Type) (f:α→Array Value) (hag:Agg Tryz.prog T n) (hsz:∀ x,(f x).size=n) (v:Value) (l:List α) (pr:α→Bool) (F:FuncId) (cap:Value) (w:World),Sl T n f w v l→
 Enters Tryz.prog F→(∀ x,∀ W,Below w.heap.size w W→Calls Tryz.prog F #[.agg (f x),cap] W (Gives (.bool (pr x)) W))→
 Calls Tryz.prog F0 #[v,.func (.func F) #[] #[cap]] w (Gives (.int .i64 (idx l pr)) w)
theorem idx3:IdxS 220 26 140∧IdxS 101 5 85:=by
 refine ⟨?_,?_⟩
 all_goals
  intro α f hag hsz v l pr F cap w h hen hcl
  have HAG:=hU hag
  have HSZ:=hU hsz
  clear hag hsz
  obtain ⟨a,c,rfl,hnc,hmax⟩:=h.shape
  obtain ⟨_,_,_,hel⟩:=h.elem
  have HEL:=hU hel
  have HCL:=hU hcl
  have HEN:=hU hen
  clear hel hcl h hen
  go_in
  repeat' (first|go_values|go_skip|go_guarded|(with_reducible refine wg ?_)|go_step|go_upon)
  go_loopw [8] (fun v wr=> Seek w l pr v wr) (fun v _=> l.length - (intOf v).toNat)
  case atStart=> exact ⟨0,Nat.zero_le _,rfl,Below.refl _ _,fun j y hj=> absurd hj (Nat.not_lt_zero _)⟩
  case round=>
   obtain ⟨k,hk,rfl,hb,hno⟩:=hrel
   have HB:=hU hb
   have HA:=hU hno
   clear hb hno
   by_cases hlt:k<l.length
   · obtain ⟨x,hx⟩:∃ x,l[k]? =some x:=⟨_,List.getElem?_eq_getElem hlt⟩
     obtain ⟨b,off,rfl,hbl,hcell⟩:=HEL.out k x hx
     have HX:=hU hx
     have HLD:=hU (run_load_arr HAG.out (HSZ.out x) (hcell wr HB.out))
     clear hcell hx
     generalize hxc:f x=xc at HLD
     repeat' (first|(refine wpList_load rfl rfl rfl HLD.out ?_)|go_values|go_skip|go_guarded|(with_reducible refine wg ?_)|go_step|go_upon)
     rw [HEN.out,Oper.upon_enter]
     have hcal:=HCL.out x wr HB.out
     rw [hxc] at hcal
     refine hcal.mono ?_
     rintro e w1 ⟨rfl,hb1⟩
     cases hp:pr x
     all_goals
      have HP:=hU hp
      clear hp
      dsimp only
      repeat' (first|go_values|go_skip|go_guarded|(with_reducible refine wg ?_)|go_step|go_upon)
     · exact ⟨⟨k + 1,by omega,by go_num,Below.to HB.out hb1,fun j y hj hy=> by
        rcases Nat.lt_succ_iff_lt_or_eq.1 hj with h|rfl
        · exact HA.out j y h hy
        · rw [HX.out] at hy
          injection hy with hy
          subst hy
          exact HP.out⟩,by simp [intOf];omega⟩
     · go_ret
       exact gives_int (idx_hit HX.out HA.out HP.out).symm (Below.to HB.out hb1)
   · repeat' (first|go_values|go_skip|go_guarded|(with_reducible refine wg ?_)|go_step|go_upon)
     go_ret
     refine gives_int (idx_miss (fun j y hj hy=> HA.out j y (by omega) hy)).symm HB.out
def DelS (T0 S:TypeId) (n0 nb:Nat) (F0 FI:FuncId):Prop:=∀ (α:Type) (T:TypeId) (n:Nat) (f:α→Array Value) (z:Array Value),T=T0→n=n0→∀ (rt:RT α T S n nb f z) (v:Value) (l:List α) (pr:α→Bool) (F:FuncId) (cap:Value) (B:Nat) (w:World),Own T n f B w v l→B≤w.heap.size→Enters Tryz.prog F→
 (∀ x,∀ W,Below B w W→Calls Tryz.prog F #[.agg (f x),cap] W (Gives (.bool (pr x)) W))→Calls Tryz.prog FI #[v,.func (.func F) #[] #[cap]] w (Gives (.int .i64 (idx l pr)) w)→
 Calls Tryz.prog F0 #[v,.func (.func F) #[] #[cap]] w (fun e w'=> ∃ v',e=.returned v'∧Own T n f B w' v' (l.filter (fun x=> !pr x))∧Below B w w')
theorem del3:DelS 101 25 5 40 93 85:=by
 all_goals
  intro α T n f z hT hn rt v l pr F cap B w h hB hen hcl hidx
  have HT:=hU hT
  have HN:=hU hn
  have HRT:=hU rt
  have HAG:=rt.agg
  rw [hT,hn] at HAG
  replace HAG:=hU HAG
  clear hT hn rt
  have HIDX:=hU hidx
  have HCL:=hU hcl
  have HEN:=hU hen
  clear hidx hcl hen
  cases hfi:l.findIdx? pr with
  |none=>
   have hno:∀ j y,j<l.length→l[j]? =some y→pr y=false:=by
    intro j y hj hy
    rw [List.findIdx?_eq_none_iff] at hfi
    exact hfi y (List.mem_of_getElem? hy)
   have hi:idx l pr= -1:=by rw [idx,hfi]
   rw [hi] at HIDX
   have hfil:=filter_all hno
   obtain ⟨a,c,hv,_,_⟩:=(h.sl HRT.out.sz).shape
   subst hv
   have HO:=hU h
   clear h hno hi hfi
   go_in
   repeat' (first|(refine HIDX.out.mono ?_;rintro e w1 ⟨rfl,hb1⟩;dsimp only)|go_values|go_skip|go_guarded|(with_reducible refine wg ?_)|go_step|go_upon)
   go_ret
   rw [hfil]
   exact ⟨_,rfl,ownsRow_below HO.out hb1,hb1.mono hB⟩
  |some k=>
   have hi:idx l pr=(k:Int):=by rw [idx,hfi]
   rw [hi] at HIDX
   rw [List.findIdx?_eq_some_iff_getElem] at hfi
   obtain ⟨hk,hpk,hno⟩:=hfi
   have hxk:l[k]? =some l[k]:=List.getElem?_eq_getElem hk
   have hF:=filter_first hxk hpk (fun j y hj hy=> by
    obtain ⟨hj',hy⟩:=List.getElem?_eq_some_iff.1 hy
    have:=hno j hj
    rw [hy] at this
    simpa using this)
   obtain ⟨g,cp,cur,rfl,hBg,hrow⟩:=h.row (by intro e;subst e;simp at hk)
   have hcm:=hrow.2.2.1
   have hnc:=hrow.2.1
   unfold maxLen at hcm
   have HROW:=hU hrow
   have HF:=hU hF
   have hkI:((k:Int)== -1)=false:=by simp
   clear hrow h hno hpk hi hF
   go_in
   repeat' (first|(refine HIDX.out.mono ?_;rintro e w1 ⟨rfl,hb1⟩;clear HIDX;dsimp only)|go_values|go_skip|go_guarded|(with_reducible refine wg ?_)|go_step|go_upon)
   go_loopw [5,6] (fun iv jv wr=> DelInv T n f B w l pr g cp iv jv wr) (fun _ jv _=> l.length - (intOf jv).toNat)
   case atStart=>
    refine ⟨k + 1,[l[k]],cur,hk,by rw [HF.out,List.length_take,Nat.min_eq_left (Nat.le_of_lt hk)],by go_num,by rw [HF.out,List.length_take,Nat.min_eq_left (Nat.le_of_lt hk)];rfl,by simp,?_,hb1.mono hB⟩
    rw [HF.out,List.append_assoc,List.singleton_append,← (take_succ_get hxk).2,List.take_append_drop]
    exact HROW.out.same (hb1.block g (hlt HROW.out.1))
   case round=>
    clear HROW HF hkI hxk hk hb1
    obtain ⟨j,m,cur,hj,rfl,rfl,hjm,hm,hrow,hbel⟩:=hrel
    have HROW:=hU hrow
    have HB:=hU hbel
    have hz:=hbel.size
    have hgl:=hlt hrow.1
    have hlen:((l.take j).filter (fun x=> !pr x) ++ m ++ l.drop j).length=l.length:=by
     rw [List.length_append,List.length_append,List.length_drop]
     omega
    have hrl:=hrow.2.1
    rw [hlen] at hrl
    clear hrow hbel
    by_cases hjl:j<l.length
    · obtain ⟨x,hx⟩:∃ x,l[j]? =some x:=⟨_,List.getElem?_eq_getElem hjl⟩
      have hxr:((l.take j).filter (fun x=> !pr x) ++ m ++ l.drop j)[j]? =some x:=by
       rw [List.getElem?_append_right (by rw [List.length_append];omega),List.length_append,hjm,Nat.sub_self,List.getElem?_drop]
       exact hx
      have HX:=hU hx
      have HLD:=hU (run_load_arr HRT.out.agg (HRT.out.sz x) (HROW.out.get HRT.out.sz hxr))
      clear hxr hx
      have hcal:=hU (fun W hb=> HCL.out x W hb)
      have HXS:Hid ((f x).size=n):=hU (HRT.out.sz x)
      have HX1:=hU (HRT.out.ones x)
      have HSET:=hU (fun (W W':World) (cu:Array Value) (hr:Row T n f W g cp ((l.take j).filter (fun x=> !pr x) ++ m ++ l.drop j) cu) (hp:Put g (splice cu (((l.take j).filter (fun x=> !pr x)).length * n) (f x)) T W W')=> Row.set HRT.out.sz hr (i:=((l.take j).filter (fun x=> !pr x)).length) (by rw [hlen];omega) rfl hp)
      have hfit:((l.take j).filter (fun x=> !pr x)).length * n + n≤cur.size:=by
       rw [HROW.out.2.2.2.1]
       have:(((l.take j).filter (fun x=> !pr x)).length + 1) * n≤cp * n:=Nat.mul_le_mul_right _ (by omega)
       rw [Nat.add_mul,Nat.one_mul] at this
       omega
      have HFIT:=hU hfit
      clear hfit
      generalize f x=xc at *
      obtain rfl:=HT.out
      obtain rfl:=HN.out
      repeat' (first
       |(refine wpList_load rfl rfl rfl HLD.out ?_)
       |(refine wpList_store (v:=.agg xc) rfl rfl rfl rfl HAG.out.size (hnew wr _) HXS.out (by simp) HX1.out (splice_whole (by rw [show (Value.agg xc).cells.size=_ from HXS.out];simp)) ?_;intro W1 hp1;have HN1:=hU hp1.at_;have HB1:=hU (Below.put ((Below.refl wr.heap.size wr).alloc (Nat.le_refl _) _) hp1 (Nat.le_refl _));have hz1:=hp1.size;simp at hz1;clear hp1)
       |(refine wpList_load rfl rfl rfl (run_load_whole HAG.out HN1.out HXS.out) ?_)
       |go_values|go_skip|go_guarded|(with_reducible refine wg ?_)|go_step|go_upon)
      rw [HEN.out,Oper.upon_enter]
      refine (hcal.out W1 (HB.out.trans (HB1.out.mono (Nat.le_trans hB hz)))).mono ?_
      rintro e w2 ⟨rfl,hb2⟩
      have hz2:=hb2.size
      have HN2:=hU ((hb2.block wr.heap.size (by omega)).trans HN1.out)
      have HB2:=hU (Below.to HB1.out hb2)
      have HR2:=hU (HROW.out.same (HB2.out.block g hgl))
      clear hcal hb2 HN1 HB1 HROW HLD
      cases hp:pr x
      all_goals
       have HP:=hU hp
       clear hp
       dsimp only
      · repeat' (first
         |(refine wpList_load rfl rfl rfl (run_load_whole HAG.out HN2.out HXS.out) ?_)
         |(refine wpList_store (v:=.agg xc) rfl rfl rfl rfl HAG.out.size HR2.out.1 HXS.out HFIT.out HX1.out rfl ?_;intro W3 hp3;have HR3:=hU (HSET.out w2 W3 cur HR2.out hp3);have HB3:=hU (Below.put (HB.out.trans (HB2.out.mono (Nat.le_trans hB hz))) hp3 hBg);clear hp3)
         |go_values|go_skip|go_guarded|(with_reducible refine wg ?_)|go_step|go_upon)
        obtain ⟨e1,e2⟩:=del_miss (m:=m) HX.out HP.out hm
        have hr3:=HR3.out
        rw [e2,← e1] at hr3
        exact ⟨⟨j + 1,m.tail ++ [x],_,by omega,by rw [e1,List.length_append];go_num,by go_num,by rw [e1,List.length_append,List.length_append,List.length_tail];simp;omega,by simp,hr3,HB3.out⟩,by simp [intOf];omega⟩
      · repeat' (first|go_values|go_skip|go_guarded|(with_reducible refine wg ?_)|go_step|go_upon)
        obtain ⟨e1,e2⟩:=del_hit (m:=m) HX.out HP.out
        refine ⟨⟨j + 1,m ++ [x],cur,by omega,by rw [e1],by go_num,by rw [e1,List.length_append];simp;omega,by simp,?_,HB.out.trans (HB2.out.mono (Nat.le_trans hB hz))⟩,by simp [intOf];omega⟩
        rw [e1,← e2]
        exact HR2.out
    · obtain rfl:j=l.length:=by omega
      rw [List.take_length,List.drop_length,List.append_nil] at *
      generalize hL:l.filter (fun x=> !pr x)=L at *
      have hiI:(L.length:Int)≤l.length:=by omega
      have hi0:L.length<l.length:=by omega
      have hfit:L.length * n + (l.length - L.length) * n≤cur.size:=by
       rw [HROW.out.2.2.2.1,← Nat.add_mul]
       exact Nat.mul_le_mul_right _ (by omega)
      have hones:∀ u ∈ (Builtin.zeroCells ((Value.agg z).cells) (l.length - L.length)).toList,u.oneCell'=true:=zeros_ones HRT.out.zo
      have HRUN:=hU (run_clear (ty:=0) (c:=cp - L.length) HRT.out.und (HRT.out.zero wr) (Nat.sub_pos_of_lt hi0) HROW.out.1 (by rw [show (Value.agg z).cells.size=n from HRT.out.zs];exact hfit) hones)
      have hput:=put_row (cs:=splice cur (L.length * n) (Builtin.zeroCells ((Value.agg z).cells) (l.length - L.length))) HROW.out.1
      have hcut:=(HROW.out.cut HRT.out.sz).past (splice_size (by rw [size_zeroCells,show (Value.agg z).cells.size=n from HRT.out.zs];exact hfit)) (splice_take (by rw [HROW.out.2.2.2.1];exact Nat.mul_le_mul_right _ (by omega))) hput
      have HOWN:=hU (hcut.own HRT.out.sz hBg)
      have HBW:=hU (Below.put HB.out hput hBg)
      have HL:=hU hL
      clear hfit hones hL hput hcut
      obtain rfl:=HT.out
      obtain rfl:=HN.out
      repeat' (first|(refine wpList_clear rfl _ _ rfl _ rfl _ HRUN.out ?_)|go_values|go_skip|go_guarded|(with_reducible refine wg ?_)|go_step|go_upon)
      go_ret
      refine ⟨_,rfl,?_,HBW.out⟩
      rw [HL.out]
      exact HOWN.out
theorem idxProc (v:Value) (l:List (Proc)) (pr:Proc→Bool) (F:FuncId) (cap:Value) (w:World) (h:Sl 220 26 Proc.cells w v l)
 (hen:Enters Tryz.prog F) (hcl:∀ x,∀ W,Below w.heap.size w W→Calls Tryz.prog F #[.agg x.cells,cap] W (Gives (.bool (pr x)) W)):
 Calls Tryz.prog 140 #[v,.func (.func F) #[] #[cap]] w (Gives (.int .i64 (idx l pr)) w):=idx3.1 _ _ aggProc szProc v l pr F cap w h hen hcl
theorem idxChan (v:Value) (l:List (Chan)) (pr:Chan→Bool) (F:FuncId) (cap:Value) (w:World) (h:Sl 101 5 Chan.cells w v l)
 (hen:Enters Tryz.prog F) (hcl:∀ x,∀ W,Below w.heap.size w W→Calls Tryz.prog F #[.agg x.cells,cap] W (Gives (.bool (pr x)) W)):
 Calls Tryz.prog 85 #[v,.func (.func F) #[] #[cap]] w (Gives (.int .i64 (idx l pr)) w):=idx3.2 _ _ aggChan szChan v l pr F cap w h hen hcl
theorem delChan (v:Value) (l:List (Chan)) (pr:Chan→Bool) (F:FuncId) (cap:Value) (B:Nat) (w:World) (h:Own 101 5 Chan.cells B w v l) (hB:B≤w.heap.size) (hen:Enters Tryz.prog F)
 (hcl:∀ x,∀ W,Below B w W→Calls Tryz.prog F #[(.agg x.cells),cap] W (Gives (.bool (pr x)) W)):
 Calls Tryz.prog 93 #[v,.func (.func F) #[] #[cap]] w (fun e w'=> ∃ v',e=.returned v'∧Own 101 5 Chan.cells B w' v' (l.filter (fun x=> !pr x))∧Below B w w'):=del3 _ _ _ _ _ rfl rfl rtChan v l pr F cap B w h hB hen hcl (idxChan v l pr F cap w (h.sl szChan) hen (fun x W hb=> hcl x W (hb.mono hB)))
end Kn
end Go.Proofs.YthgehdghihbiaaaGreatDoor
