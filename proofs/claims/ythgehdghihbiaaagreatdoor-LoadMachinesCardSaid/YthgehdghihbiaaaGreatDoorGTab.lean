/- table.Find, Put, Remove: processes by their numbers. Condition: as many as Go can hold. table.Find: a process by its number. No condition. table.Put and Remove. Condition: as many as Go can hold. table.Next and Adopt. Conditions: the numbers are integers; as many as Go can hold. -/
import Derived.Test.YthgehdghihbiaaaGreatDoorGRow
import Derived.Test.YthgehdghihbiaaaGreatDoorKClo
set_option linter.unusedVariables false
set_option maxRecDepth 100000
set_option maxHeartbeats 8000000
set_option linter.unusedSimpArgs false
namespace Go.Proofs.YthgehdghihbiaaaGreatDoor
open Go.RowKit KR
namespace Kn
abbrev SlP (W:World) (v:Value) (l:List Proc):Prop:=Sl 220 26 Proc.cells W v l
abbrev OwnP (B:Nat) (W:World) (v:Value) (l:List Proc):Prop:=Own 220 26 Proc.cells B W v l
theorem at1 (x:Proc) (b:Nat) (pid:Int) (W:World) (h:W.cell? ⟨b,0,none⟩=some (.int .i64 pid)) (hb:b<W.heap.size):Calls Tryz.prog 139 #[.agg x.cells,.pointer (some ⟨b,0,none⟩)] W (Gives (.bool (x.pid==pid)) W):=by
 have h0:x.cells[0]? =some (.int .i64 x.pid):=rfl
 generalize x.cells=xc at *
 go_enter Tryz.func139,Tryz.ntmps139
 repeat' (first|go_values|go_skip|go_guarded|(with_reducible refine wg ?_)|go_step|go_upon|go_quiet (fail))
 go_ret
 exact gives_bool rfl bel
theorem put1 (x:Proc) (b:Nat) (pid:Int) (W:World) (h:W.cell? ⟨b,0,none⟩=some (.int .i64 pid)) (hb:b<W.heap.size):Calls Tryz.prog 122 #[.agg x.cells,.pointer (some ⟨b,0,none⟩)] W (Gives (.bool (decide (pid<x.pid))) W):=by
 have h0:x.cells[0]? =some (.int .i64 x.pid):=rfl
 generalize x.cells=xc at *
 go_enter Tryz.func122,Tryz.ntmps122
 repeat' (first|go_values|go_skip|go_guarded|(with_reducible refine wg ?_)|go_step|go_upon|go_quiet (fail))
 go_ret
 exact gives_bool rfl bel
theorem enAt1:Enters Tryz.prog 139:=enters_of Tryz.func139 (by kernel_rfl) rfl
theorem enPut1:Enters Tryz.prog 122:=enters_of Tryz.func122 (by kernel_rfl) rfl
theorem firstP (v:Value) (l:List Proc) (pr:Proc→Bool) (F:FuncId) (cap:Value) (w:World) (h:SlP w v l) (hen:Enters Tryz.prog F) (hcl:∀ x,∀ W,Below w.heap.size w W→Calls Tryz.prog F #[.agg x.cells,cap] W (Gives (.bool (pr x)) W)):
 Calls Tryz.prog 121 #[v,.func (.func F) #[] #[cap]] w (Gives (.int .i64 (idx l pr)) w):=by
 have HC:=hU (idxProc v l pr F cap w h hen hcl)
 obtain ⟨a,c,rfl,_,_⟩:=h.shape
 clear h hcl hen
 go_enter Tryz.func121,Tryz.ntmps121
 repeat' (first|(go_at_call 140;refine HC.out.mono ?_;rintro e w1 ⟨rfl,hb1⟩;dsimp only)|go_values|go_skip|go_guarded|(with_reducible refine wg ?_)|go_step|go_upon)
 go_ret
 exact ⟨rfl,hb1⟩
theorem atP (v:Value) (l:List Proc) (pid:Int) (w:World) (h:SlP w v l):Calls Tryz.prog 120 #[v,.int .i64 pid] w (Gives (.int .i64 (idx l (fun p=> p.pid==pid))) w):=by
 have HC:=hU (firstP v l (fun p=> p.pid==pid) 139 (.pointer (some ⟨w.heap.size,0,none⟩)) (w.alloc (.cells #[.int .i64 pid] 3)) (h.below ((Below.refl _ _).alloc (Nat.le_refl _) _)) enAt1
  (fun x W hb=> at1 x w.heap.size pid W ((hb.cell (p:=⟨w.heap.size,0,none⟩) (by simp)).trans (by go_simp)) (Nat.lt_of_lt_of_le (by simp) hb.size)))
 obtain ⟨a,c,rfl,_,_⟩:=h.shape
 clear h
 go_enter Tryz.func120,Tryz.ntmps120
 repeat' (first|(go_at_call 121;refine HC.out.mono ?_;rintro e w1 ⟨rfl,hb1⟩;dsimp only)|go_values|go_skip|go_guarded|(with_reducible refine wg ?_)|go_step|go_upon)
 go_ret
 exact ⟨rfl,Below.to ((Below.refl _ _).alloc (Nat.le_refl _) _) hb1⟩
theorem idx_find {α:Type} (pr:α→Bool):∀ l:List α,(∃ k:Nat,idx l pr=(k:Int)∧l.find? pr=l[k]? ∧k<l.length)∨(idx l pr= -1∧l.find? pr=none)
 |l=> by
  cases h:l.findIdx? pr with
  |none=>
   refine .inr ⟨by rw [idx,h],?_⟩
   rw [List.findIdx?_eq_none_iff] at h
   rw [List.find?_eq_none]
   exact fun x hx=> by simpa using h x hx
  |some k=>
   rw [List.findIdx?_eq_some_iff_getElem] at h
   have h':=h
   obtain ⟨hk,hp,hno⟩:=h
   refine .inl ⟨k,by rw [idx,List.findIdx?_eq_some_iff_getElem.2 h'],?_,hk⟩
   rw [List.getElem?_eq_getElem hk,List.find?_eq_some_iff_getElem]
   exact ⟨hp,k,hk,rfl,fun j hj=> by have:=hno j hj;simpa using this⟩
theorem idx_some {α:Type} {l:List α} {pr:α→Bool} {k:Nat} (h:idx l pr=(k:Int)):l.findIdx? pr=some k:=by
 unfold idx at h
 cases hf:l.findIdx? pr with
 |none=> rw [hf] at h;simp at h
 |some k'=>
  rw [hf] at h
  have h:(k':Int)=(k:Int):=h
  rw [show k'=k by omega]
theorem idx_none {α:Type} {l:List α} {pr:α→Bool} (h:idx l pr= -1):l.findIdx? pr=none:=by
 unfold idx at h
 cases hf:l.findIdx? pr with
 |none=> rfl
 |some k'=> rw [hf] at h;simp at h
theorem put_set {l:List Proc} {p:Proc} {k:Nat} (h:idx l (fun x=> x.pid==p.pid)=(k:Int)):put l p=l.set k p:=by
 unfold put
 rw [idx_some h]
theorem put_ins {l:List Proc} {p:Proc} {k:Nat} (h:idx l (fun x=> x.pid==p.pid)= -1) (h2:idx l (fun x=> decide (p.pid<x.pid))=(k:Int)):put l p=ins l k p:=by
 unfold put
 rw [idx_none h,idx_some h2]
theorem put_end {l:List Proc} {p:Proc} (h:idx l (fun x=> x.pid==p.pid)= -1) (h2:idx l (fun x=> decide (p.pid<x.pid))= -1):put l p=l ++ [p]:=by
 unfold put
 rw [idx_none h,idx_none h2]
theorem TPut (v:Value) (l:List Proc) (p:Proc) (w:World) (h:SlP w v l) (hn:l.length≤34359738368):
 Calls Tryz.prog 105 #[v,.agg p.cells] w (fun e w'=> ∃ v',e=.returned v'∧OwnP w.heap.size w' v' (put l p)∧Below w.heap.size w w'):=by
 have HC:=hU (cloneProc v l (w.alloc (.cells p.cells 220)) (h.below ((Below.refl _ _).alloc (Nat.le_refl _) _)) (by omega))
 obtain ⟨a,c,rfl,_,_⟩:=h.shape
 have h0:p.cells[0]? =some (.int .i64 p.pid):=rfl
 have HX1:=hU (onesProc p)
 have HXS:Hid (p.cells.size=26):=hU rfl
 have HSET:=hU (fun (W W':World) (g cp k:Nat) (cu:Array Value) (hr:Row 220 26 Proc.cells W g cp l cu) (hk:k<l.length) (hp:Put g (splice cu (k * 26) p.cells) 220 W W')=> Row.set szProc hr (i:=k) hk rfl hp)
 have HINS:=hU (fun (v:Value) (i B xb:Nat) (w:World) (h:OwnP B w v l) (hB:B≤w.heap.size) (hx:w.heap[xb]? =some (.cells p.cells 220 (0,0))) (hne:v.ownBlock ≠ some xb) (hi:i≤l.length)=> insProc v l i p B xb w h hB hx hne hi hn)
 have HEND:=hU (fun (v:Value) (B xb:Nat) (w:World) (h:OwnP B w v l) (hB:B≤w.heap.size) (hx:w.heap[xb]? =some (.cells p.cells 220 (0,0)))=> insEndProc v l p B xb w h hB hx hn)
 clear h
 generalize p.cells=xc at *
 go_enter Tryz.func105,Tryz.ntmps105
 repeat' (first|go_values|go_skip|go_guarded|(with_reducible refine wg ?_)|go_step|go_upon)
 refine HC.out.mono ?_
 rintro e w1 ⟨v1,rfl,hown,hb1⟩
 have hz1:=hb1.size
 simp at hz1
 have HP1:=hU ((hb1.block w.heap.size (by simp)).trans (hnew w (.cells xc 220)))
 have hc1:w1.cell? ⟨w.heap.size,0,none⟩=some (.int .i64 p.pid):=(hcell HP1.out 0).trans h0
 have HB1:=hU (Below.to ((Below.refl w.heap.size w).alloc (Nat.le_refl _) _) hb1)
 have HA:=hU (atP v1 l p.pid w1 (hown.sl szProc))
 have HO:=hU (Own.mono (B':=w.heap.size) hown (by simp))
 have hv1:v1.ownBlock ≠ some w.heap.size:=fun e=> by
  have:=(World.ownsRow.lt hown _ e).1
  simp at this
  omega
 have HV1:=hU hv1
 obtain ⟨a1,c1,rfl,_,_⟩:=(hown.sl szProc).shape
 clear hown hb1 HC hv1
 dsimp only
 rcases idx_find (fun x=> x.pid==p.pid) l with ⟨k,hi,_,hk⟩|⟨hi,_⟩
 · have hput:=put_set hi
   rw [hi] at HA
   obtain ⟨g,cp,cur,he,hBg,hrow⟩:=HO.out.row (by intro e;subst e;simp at hk)
   injection he with ha _ hc
   subst ha hc
   have hgl:=hlt hrow.1
   have HROW:=hU hrow
   have hfit:k * 26 + 26≤cur.size:=by
    rw [hrow.2.2.2.1]
    have:(k + 1) * 26≤c1 * 26:=Nat.mul_le_mul_right _ (by have:=hrow.2.1;omega)
    omega
   have HFIT:=hU hfit
   have hgne:g ≠ w.heap.size:=fun e=> HV1.out (by rw [e];rfl)
   clear hrow hfit HINS HEND
   repeat' (first
    |(go_at_call 120;refine HA.out.mono ?_;rintro e w2 ⟨rfl,hb2⟩;(have hz2:=hb2.size);(have HP2:=hU ((hb2.block w.heap.size (by omega)).trans HP1.out));(have HR2:=hU (HROW.out.same (hb2.block g hgl)));(have HB2:=hU (Below.to HB1.out hb2));clear hb2 HA hc1;dsimp only)
    |(refine wpList_load rfl rfl rfl (run_load_whole aggProc HP2.out HXS.out) ?_)
    |(refine wpList_store (v:=.agg xc) rfl rfl rfl rfl aggProc.size HR2.out.1 HXS.out HFIT.out HX1.out rfl ?_;intro W3 hp3;(have HR3:=hU (HSET.out w2 W3 g _ k cur HR2.out hk hp3));(have HB3:=hU (Below.put HB2.out hp3 hBg));clear hp3)
    |go_values|go_skip|go_guarded|(with_reducible refine wg ?_)|go_step|go_upon)
   go_ret
   have hown:=HR3.out.own szProc hBg
   rw [List.length_set] at hown
   rw [hput]
   exact ⟨_,rfl,hown,HB3.out⟩
 · rw [hi] at HA
   have HI:=hU hi
   clear hi HSET
   repeat' (first|go_values|go_skip|go_guarded|(with_reducible refine wg ?_)|go_step|go_upon)
   refine HA.out.mono ?_
   rintro e w2 ⟨rfl,hb2⟩
   have hz2:=hb2.size
   have HP2:=hU ((hb2.block w.heap.size (by omega)).trans HP1.out)
   have HO2:=hU (ownsRow_below HO.out hb2)
   have HB2:=hU (Below.to HB1.out hb2)
   clear hb2 HA hc1
   dsimp only
   have HF:=hU (firstP _ l (fun x=> decide (p.pid<x.pid)) 122 (.pointer (some ⟨w.heap.size,0,none⟩)) w2 (HO2.out.sl szProc) enPut1
    (fun x W hb=> put1 x w.heap.size p.pid W ((hb.cell (p:=⟨w.heap.size,0,none⟩) (show w.heap.size<w2.heap.size by omega)).trans ((hcell HP2.out 0).trans h0)) (by have:=hb.size;omega)))
   rcases idx_find (fun x=> decide (p.pid<x.pid)) l with ⟨k,hi,_,hk⟩|⟨hi,_⟩
   · have hput2:=put_ins HI.out hi
     rw [hi] at HF
     clear hi HI
     repeat' (first
      |(go_at_call 121;refine HF.out.mono ?_;rintro e w3 ⟨rfl,hb3⟩;(have hz3:=hb3.size);(have HP3:=hU ((hb3.block w.heap.size (by omega)).trans HP2.out));(have HO3:=hU (ownsRow_below HO2.out hb3));(have HB3:=hU (Below.to HB2.out hb3));clear hb3 HF;dsimp only)
      |(refine wpList_load rfl rfl rfl (run_load_whole aggProc HP3.out HXS.out) ?_)
      |(refine wpList_buildSlice_one (v:=.agg xc) rfl _ rfl rfl Tryz.underlying57 aggProc.size zeroProc rfl (by decide) (by decide) HXS.out ?_)
      |go_values|go_skip|go_guarded|(with_reducible refine wg ?_)|go_step|go_upon)
     have HO4:=ownsRow_below HO3.out ((Below.refl w3.heap.size w3).alloc (Nat.le_refl _) (.cells xc 220))
     refine (HINS.out _ k w.heap.size w3.heap.size _ HO4 (by simp;omega) (hnew w3 _) (fun e=> by have:=(World.ownsRow.lt HO3.out _ e).2;omega) (by omega)).mono ?_
     rintro e w5 ⟨v5,rfl,hown5,hb5⟩
     have HO5:=hU hown5
     have HB5:=hU ((Below.to HB3.out ((Below.refl w3.heap.size w3).alloc (Nat.le_refl _) _)).trans hb5)
     clear hown5 hb5 HO4
     dsimp only
     repeat' (first|go_values|go_skip|go_guarded|(with_reducible refine wg ?_)|go_step|go_upon)
     go_ret
     rw [hput2]
     exact ⟨_,rfl,HO5.out,HB5.out⟩
   · have hput2:=put_end HI.out hi
     rw [hi] at HF
     clear hi HI
     repeat' (first|go_values|go_skip|go_guarded|(with_reducible refine wg ?_)|go_step|go_upon)
     refine HF.out.mono ?_
     rintro e w3 ⟨rfl,hb3⟩
     have hz3:=hb3.size
     have HP3:=hU ((hb3.block w.heap.size (by omega)).trans HP2.out)
     have HO4:=ownsRow_below (ownsRow_below HO2.out hb3) ((Below.refl w3.heap.size w3).alloc (Nat.le_refl _) (.cells xc 220))
     obtain ⟨v5,w5,hrun,hown5,hb5⟩:=HEND.out _ w.heap.size w3.heap.size _ HO4 (by simp;omega) (hnew w3 _)
     have HRUN:=hU hrun
     have HO5:=hU hown5
     have HB5:=hU ((Below.to (Below.to HB2.out hb3) ((Below.refl w3.heap.size w3).alloc (Nat.le_refl _) _)).trans hb5)
     clear hb3 HF HO4 hrun hown5 hb5
     dsimp only
     repeat' (first
      |(refine wpList_load rfl rfl rfl (run_load_whole aggProc HP3.out HXS.out) ?_)
      |(refine wpList_buildSlice_one (v:=.agg xc) rfl _ rfl rfl Tryz.underlying57 aggProc.size zeroProc rfl (by decide) (by decide) HXS.out ?_)
      |(at_builtin;refine wpList_append_run _ rfl _ _ _ _ rfl _ _ rfl rfl _ _ HRUN.out ?_)
      |go_values|go_skip|go_guarded|(with_reducible refine wg ?_)|go_step|go_upon)
     go_ret
     rw [hput2]
     exact ⟨_,rfl,HO5.out,HB5.out⟩
def MostAt (w:World) (l:List Proc) (mv iv:Value) (wr:World):Prop:=∃ k:Nat,k≤l.length∧iv=.int .i64 k∧mv=.int .i64 (most (l.take k) 0)∧Below w.heap.size w wr
theorem most_snoc (l:List Proc) (p:Proc) (m:Int):most (l ++ [p]) m=max (most l m) p.pid:=by simp [most]
theorem most_le {b:Int}:∀ (l:List Proc) (m:Int),(∀ p ∈ l,p.pid≤b)→m≤b→most l m≤b
 |[],m,_,h=> h
 |p::l,m,hl,h=> by
  show most l (max m p.pid)≤b
  exact most_le l _ (fun q hq=> hl q (by simp [hq])) (by have:=hl p (by simp);omega)
theorem most_ge:∀ (l:List Proc) (m:Int),m≤most l m
 |[],m=> Int.le_refl _
 |p::l,m=> by
  show m≤most l (max m p.pid)
  exact Int.le_trans (by omega) (most_ge l _)
theorem Next (v:Value) (l:List Proc) (w:World) (h:SlP w v l) (hp:∀ p ∈ l,p.pid≤4611686018427387904):
 Calls Tryz.prog 102 #[v] w (Gives (.int .i64 (next l)) w):=by
 obtain ⟨a,c,rfl,hnc,hmax⟩:=h.shape
 obtain ⟨_,_,_,hel⟩:=h.elem
 have HEL:=hU hel
 clear hel h
 go_enter Tryz.func102,Tryz.ntmps102
 repeat' (first|go_values|go_skip|go_guarded|(with_reducible refine wg ?_)|go_step|go_upon)
 go_loopw [3,8] (fun mv iv wr=> MostAt w l mv iv wr) (fun _ iv _=> l.length - (intOf iv).toNat)
 case atStart=> exact ⟨0,Nat.zero_le _,rfl,rfl,Below.refl _ _⟩
 case round=>
  obtain ⟨k,hk,rfl,rfl,hb⟩:=hrel
  have HB:=hU hb
  clear hb
  have hm1:=most_ge (l.take k) 0
  have hm2:=most_le (l.take k) 0 (fun p hpm=> hp p (List.mem_of_mem_take hpm)) (by decide)
  by_cases hlt:k<l.length
  · obtain ⟨x,hx⟩:∃ x,l[k]? =some x:=⟨_,List.getElem?_eq_getElem hlt⟩
    obtain ⟨b,off,rfl,hbl,hcell⟩:=HEL.out k x hx
    have htk:=(take_succ_get hx).1
    have HCELL:=hU (hcell wr HB.out)
    have h0:x.cells[0]? =some (.int .i64 x.pid):=rfl
    have HX1:=hU (onesProc x)
    have HXS:Hid (x.cells.size=26):=hU rfl
    have HM:=hU (most_snoc (l.take k) x 0)
    rw [← htk] at HM
    generalize hm:most (l.take k) 0=m at *
    clear hcell hx htk
    generalize x.cells=xc at *
    repeat' (first
     |(refine wpList_load rfl rfl rfl (run_load_arr aggProc HXS.out HCELL.out) ?_)
     |(refine wpList_store (v:=.agg xc) rfl rfl rfl rfl aggProc.size (hnew wr _) HXS.out (by simp) HX1.out (splice_whole (by rw [show (Value.agg xc).cells.size=26 from HXS.out];rfl)) ?_;intro W1 hp1;(have hc1:W1.cell? ⟨wr.heap.size,0,none⟩=some (.int .i64 x.pid):=(hcell hp1.at_ 0).trans h0);(have HB1:=hU (Below.to HB.out (Below.put ((Below.refl wr.heap.size wr).alloc (Nat.le_refl _) _) hp1 (Nat.le_refl _))));clear hp1)
     |go_values|go_skip|go_guarded|(with_reducible refine wg ?_)|go_step|go_upon)
    exact ⟨⟨k + 1,by omega,by go_num,by rw [HM.out,Int.max_def];congr 1;split <;> split <;> omega,HB1.out⟩,by simp [intOf];omega⟩
  · obtain rfl:k=l.length:=by omega
    rw [List.take_length] at *
    repeat' (first|go_values|go_skip|go_guarded|(with_reducible refine wg ?_)|go_step|go_upon)
    go_ret
    exact ⟨by rw [next];rfl,HB.out⟩
end Kn
end Go.Proofs.YthgehdghihbiaaaGreatDoor
