/- What is right of a guest, place by place, in plain Lean. No condition. The reference's Right, of the table, the alarms and the room. Conditions: they are right. -/
import Derived.Test.YtalapfkfdhpomaaGreatDoorGGood
import Derived.Test.YtalapfkfdhpomaaGreatDoorGWork
import Derived.Test.YtalapfkfdhpomaaGreatDoorKNeq
set_option linter.unusedVariables false
set_option linter.unusedSimpArgs false
namespace Go.Proofs.YtalapfkfdhpomaaGreatDoor
namespace Kn
theorem hr_at {size:Int}:∀ {l:List Span} {a:Int} {i:Nat} {s:Span},hrightFrom size l a=true→l[i]? =some s→a≤s.at_∧1≤s.n∧s.at_≤size - s.n
 |[],_,_,_,_,e=> by simp at e
 |x::l,a,0,s,h,e=> by
  simp only [hrightFrom,Bool.and_eq_true,Bool.not_eq_true',Bool.or_eq_false_iff,decide_eq_false_iff_not] at h
  simp only [List.getElem?_cons_zero,Option.some.injEq] at e
  subst e
  omega
 |x::l,a,i + 1,s,h,e=> by
  simp only [hrightFrom,Bool.and_eq_true,Bool.not_eq_true',Bool.or_eq_false_iff,decide_eq_false_iff_not] at h
  rw [List.getElem?_cons_succ] at e
  have:=hr_at h.2 e
  omega
theorem hr_next {size:Int}:∀ {l:List Span} {a:Int} {i:Nat} {r s:Span},hrightFrom size l a=true→l[i]? =some r→l[i + 1]? =some s→r.at_ + r.n≤s.at_
 |[],_,_,_,_,_,e,_=> by simp at e
 |x::l,a,0,r,s,h,e,e2=> by
  simp only [hrightFrom,Bool.and_eq_true] at h
  simp only [List.getElem?_cons_zero,Option.some.injEq] at e
  rw [List.getElem?_cons_succ] at e2
  subst e
  exact (hr_at h.2 e2).1
 |x::l,a,i + 1,r,s,h,e,e2=> by
  simp only [hrightFrom,Bool.and_eq_true] at h
  rw [List.getElem?_cons_succ] at e e2
  exact hr_next h.2 e e2
theorem pw_next {α:Type} {R:α→α→Prop} {l:List α} (h:l.Pairwise R) {i:Nat} {r s:α} (e:l[i]? =some r) (e2:l[i + 1]? =some s):R r s:=by
 obtain ⟨h1,rfl⟩:=List.getElem?_eq_some_iff.1 e
 obtain ⟨h2,rfl⟩:=List.getElem?_eq_some_iff.1 e2
 exact List.pairwise_iff_getElem.1 h i (i + 1) h1 h2 (Nat.lt_succ_self i)
theorem Inv.size {k:Kern} (h:Inv [] k):0≤k.hs:=by
 have:=h.hr
 simp only [hright,Bool.and_eq_true,decide_eq_true_eq] at this
 exact this.2
theorem Inv.rightH {k:Kern} (h:Inv [] k):hrightFrom k.hs k.h 0=true:=by
 have:=h.hr
 simp only [hright,Bool.and_eq_true] at this
 exact this.1
end Kn
end Go.Proofs.YtalapfkfdhpomaaGreatDoor
namespace Go.Proofs.YtalapfkfdhpomaaGreatDoor
open Go.RowKit KR RegT3
namespace Kn
set_option maxRecDepth 100000 in
set_option maxHeartbeats 4000000 in
theorem RRightP (v:Value) (l:List Proc) (w:World) (h:SlP w v l) (hs:Sorted l) (hp:∀ p ∈ l,1≤p.pid):Calls Tryz.prog 15 #[v] w (Gives (.bool true) w):=by
 obtain ⟨a,c,rfl,h1,h2⟩:=h.shape
 have H:=hU h.elem.2.2.2
 clear h
 go_enter Tryz.func15,Tryz.ntmps15
 repeat' (first|go_values|go_skip|go_guarded|(with_reducible refine Way.go ?_)|go_step|go_upon)
 go_loopw [3] (fun iv wr=> SameR w l.length iv wr) (fun iv _=> l.length - (intOf iv).toNat)
 case atStart=> exact ⟨0,Nat.zero_le _,rfl,Below.refl _ _⟩
 case round=>
  obtain ⟨i,hi,rfl,hb⟩:=hrel
  by_cases hil:i<l.length
  · obtain ⟨x,hx⟩:∃ x,l[i]? =some x:=⟨_,List.getElem?_eq_getElem hil⟩
    have hx1:=hp x (List.mem_of_getElem? hx)
    have d0:decide (x.pid<1)=false:=by simp;omega
    have hj1:(i:Int)<(l.length:Int):=by omega
    have hj0:(0:Int)≤(i:Int):=by omega
    obtain ⟨g1,o1,rfl,_,hc1⟩:=H.out i x hx
    have c0:wr.cell? ⟨g1,o1 + i * 26,none⟩=some (.int .i64 x.pid):=hc1 wr hb 0 _ rfl
    have HB:=hU hb
    rcases Nat.eq_zero_or_pos i with h0|h0
    · have d1:decide ((0:Int)<(i:Int))=false:=by simp;omega
      have d1n:decide (0<i)=false:=by simp;omega
      clear hc1 hx hb hx1 h0
      repeat' (first|go_values|go_skip|go_guarded|(with_reducible refine Way.go ?_)|go_step|go_upon)
      refine wp_region_noPanic ?_
      refine go0 (S:=fun W=> W.cell? ⟨g1,o1 + i * 26,none⟩=some (.int .i64 x.pid)) [] c0 fun hS=> ?_
      refine tp 0 ?_;(try simp only [acts])
      refine tp 1 ?_;(try simp only [acts])
      refine tp 2 ?_;(try simp only [acts])
      refine tp 3 ?_;(try simp only [acts])
      refine tl 4 ?_;(try simp only [acts])
      refine tp 5 ?_;(try simp only [acts])
      refine tp 6 ?_;(try simp only [acts])
      refine tp 7 ?_;(try simp only [acts])
      refine tp 8 ?_;(try simp only [acts])
      refine tp 9 ?_;(try simp only [acts])
      refine tn 10 ?_;(try simp only [acts])
      refine tn 11 ?_;(try simp only [acts])
      refine tn 12 ?_;(try simp only [acts])
      refine tn 13 ?_;(try simp only [acts])
      refine tn 14 ?_;(try simp only [acts])
      refine tn 15 ?_;(try simp only [acts])
      refine tn 16 ?_;(try simp only [acts])
      refine tn 17 ?_;(try simp only [acts])
      refine tn 18 ?_;(try simp only [acts])
      refine tn 19 ?_;(try simp only [acts])
      refine tn 20 ?_;(try simp only [acts])
      refine tn 21 ?_;(try simp only [acts])
      refine tp 22 ?_;(try simp only [acts])
      refine tp 23 ?_;(try simp only [acts])
      refine doneL (by kernel_rfl) (NoPanic.normal ?_) _
      clear hS
      repeat' (first|go_values|go_skip|go_guarded|(with_reducible refine Way.go ?_)|go_step|go_upon)
      exact ⟨⟨i + 1,by omega,by go_num,HB.out.drew⟩,by simp [intOf];omega⟩
    · obtain ⟨j,hj⟩:∃ j,i=j + 1:=⟨i - 1,by omega⟩
      obtain ⟨y,hy⟩:∃ y,l[j]? =some y:=⟨_,List.getElem?_eq_getElem (by omega)⟩
      have hxy:y.pid<x.pid:=pw_next hs hy (by rw [← hj];exact hx)
      obtain ⟨g2,o2,he,_,hc2⟩:=H.out j y hy
      injection he with he
      injection he with eg eo
      subst eg eo
      have c2:wr.cell? ⟨g1,o1 + j * 26,none⟩=some (.int .i64 y.pid):=hc2 wr hb 0 _ rfl
      have d1:decide ((0:Int)<(i:Int))=true:=by simp;omega
      have d1n:decide (0<i)=true:=by simp;omega
      have d2:decide (x.pid≤y.pid)=false:=by simp;omega
      have hw:IntKind.i64.wrap ((i:Int) - 1)=(j:Int):=by rw [IntKind.wrap_i64];omega
      have hk1:(j:Int)<(l.length:Int):=by omega
      have hk0:(0:Int)≤(j:Int):=by omega
      clear hc1 hc2 hx hy hb hx1 hxy h0 hj
      repeat' (first|go_values|go_skip|go_guarded|(with_reducible refine Way.go ?_)|go_step|go_upon)
      refine wp_region_noPanic ?_
      refine go0 (S:=fun W=> W.cell? ⟨g1,o1 + i * 26,none⟩=some (.int .i64 x.pid)∧W.cell? ⟨g1,o1 + j * 26,none⟩=some (.int .i64 y.pid)) [] ⟨c0,c2⟩ fun hS=> ?_
      refine tp 0 ?_;(try simp only [acts])
      refine tp 1 ?_;(try simp only [acts])
      refine tp 2 ?_;(try simp only [acts])
      refine tp 3 ?_;(try simp only [acts])
      refine tl 4 ?_;(try simp only [acts])
      refine tp 5 ?_;(try simp only [acts])
      refine tp 6 ?_;(try simp only [acts])
      refine tp 7 ?_;(try simp only [acts])
      refine tp 8 ?_;(try simp only [acts])
      refine tp 9 ?_;(try simp only [acts])
      refine tp 10 ?_;(try simp only [acts])
      refine tp 11 ?_;(try simp only [acts])
      refine tp 12 ?_;(try simp only [acts])
      refine tp 13 ?_;(try simp only [acts])
      refine tp 14 ?_;(try simp only [acts])
      refine tl 15 ?_;(try simp only [acts])
      refine tp 16 ?_;(try simp only [acts])
      refine tp 17 ?_;(try simp only [acts])
      refine tp 18 ?_;(try simp only [acts])
      refine tp 19 ?_;(try simp only [acts])
      refine tl 20 ?_;(try simp only [acts])
      refine tp 21 ?_;(try simp only [acts])
      refine tp 22 ?_;(try simp only [acts])
      refine tp 23 ?_;(try simp only [acts])
      refine doneL (by kernel_rfl) (NoPanic.normal ?_) _
      clear hS
      repeat' (first|go_values|go_skip|go_guarded|(with_reducible refine Way.go ?_)|go_step|go_upon)
      exact ⟨⟨i + 1,by omega,by go_num,HB.out.drew⟩,by simp [intOf];omega⟩
  · have HB:=hU hb
    clear hb
    repeat' (first|go_values|go_skip|go_guarded|(with_reducible refine Way.go ?_)|go_step|go_upon)
    go_ret
    exact gives_of rfl HB.out
def RightA (w:World) (n:Nat) (iv:Value) (wr:World):Prop:=∃ k:Nat,1≤k∧(k≤n∨k=1)∧iv=.int .i64 k∧Below w.heap.size w wr
set_option maxRecDepth 100000 in
set_option maxHeartbeats 4000000 in
theorem RRightA (v:Value) (l:List Alarm) (w:World) (h:SlA w v l) (hs:l.Pairwise aheadA):Calls Tryz.prog 16 #[v] w (Gives (.bool true) w):=by
 obtain ⟨a,c,rfl,h1,h2⟩:=h.shape
 have H:=hU h.elem.2.2.2
 clear h
 go_enter Tryz.func16,Tryz.ntmps16
 repeat' (first|go_values|go_skip|go_guarded|(with_reducible refine Way.go ?_)|go_step|go_upon)
 go_loopw [3] (fun iv wr=> RightA w l.length iv wr) (fun iv _=> l.length - (intOf iv).toNat)
 case atStart=> exact ⟨1,Nat.le_refl _,.inr rfl,rfl,Below.refl _ _⟩
 case round=>
  obtain ⟨i,hi1,hi,rfl,hb⟩:=hrel
  have HB:=hU hb
  by_cases hil:i<l.length
  · obtain ⟨x,hx⟩:∃ x,l[i]? =some x:=⟨_,List.getElem?_eq_getElem hil⟩
    obtain ⟨j,hj⟩:∃ j,i=j + 1:=⟨i - 1,by omega⟩
    obtain ⟨y,hy⟩:∃ y,l[j]? =some y:=⟨_,List.getElem?_eq_getElem (by omega)⟩
    have hxy:aheadA y x:=pw_next hs hy (by rw [← hj];exact hx)
    have hj1:(i:Int)<(l.length:Int):=by omega
    have hj0:(0:Int)≤(i:Int):=by omega
    have hk1:(j:Int)<(l.length:Int):=by omega
    have hk0:(0:Int)≤(j:Int):=by omega
    have hw:IntKind.i64.wrap ((i:Int) - 1)=(j:Int):=by rw [IntKind.wrap_i64];omega
    obtain ⟨g1,o1,rfl,_,hc1⟩:=H.out i x hx
    obtain ⟨g2,o2,he,_,hc2⟩:=H.out j y hy
    injection he with he
    injection he with eg eo
    subst eg eo
    have HC2:=hU (hc2 wr hb)
    have HC1:=hU hc1
    have hsz:=hb.size
    unfold aheadA at hxy
    have d1:decide (x.at_<y.at_)=false:=by simp;omega
    have d23:(x.at_==y.at_)=false∨((x.at_==y.at_)=true∧decide (x.pid≤y.pid)=false):=by simp;omega
    clear hc1 hc2 hx hy hb hxy hj
    obtain ⟨n1,haA,hn1⟩:∃ n1,wr.heap.size=n1∧w.heap.size≤n1:=⟨_,rfl,hsz⟩
    obtain ⟨Wa,hWa,hba,HA_Wa⟩:=nb1 (.cells #[.int .u64 0,.int .i64 0] 64) haA
    have HB_Wa:=hU (HB.out.trans (hba.mono hsz))
    clear hba
    rcases d23 with d2|⟨d2,d3⟩
    all_goals
     repeat' (first
     |(refine wpList_load (t:=64) (v:=.agg y.cells) rfl rfl rfl (run_load_arr aggAlarm rfl HC2.out) ?_)
     |(rw [hWa,haA];clear hWa)
     |(refine wpList_store (t:=64) (v:=.agg y.cells) (off:=0) (new:=y.cells) rfl rfl rfl rfl aggAlarm.size HA_Wa.out rfl (show 0 + 2≤2 by decide) (onesAlarm y) rfl ?_;intro Wb hp
       have HB_Wb:=hU (Below.put HB_Wa.out hp (by have:=HB.out.size;omega))
       have HA_Wb:=pA hp
       have hz2:=hlt HA_Wb.out
       obtain ⟨n2,haD,hn2⟩:∃ n2,Wb.heap.size=n2∧n1<n2:=⟨_,rfl,hz2⟩
       obtain ⟨Wc,hWc,hbc,HD_Wc⟩:=nb1 (.cells #[.int .u64 0,.int .i64 0] 64) haD
       have HA_Wc:=nB hbc HA_Wb
       have HB_Wc:=hU (HB_Wb.out.trans (hbc.mono HB_Wb.out.size))
       have HC3:=hU (HC1.out Wb HB_Wb.out)
       clear hbc HA_Wb hz2 HC1 HC2
       clear hp HA_Wa HB_Wa)
     |(refine wpList_load (t:=64) (v:=.agg x.cells) rfl rfl rfl (run_load_arr aggAlarm rfl HC3.out) ?_)
     |(rw [hWc,haD];clear hWc)
     |(refine wpList_store (t:=64) (v:=.agg x.cells) (off:=0) (new:=x.cells) rfl rfl rfl rfl aggAlarm.size HD_Wc.out rfl (show 0 + 2≤2 by decide) (onesAlarm x) rfl ?_;intro Wd hp
       have HB_Wd:=hU (Below.put HB_Wc.out hp (by have:=HB.out.size;omega))
       have HD_Wd:=pA hp
       have HA_Wd:=pO hp HA_Wc
       have a0:Wd.cell? ⟨n1,0,none⟩=some (.int .u64 y.at_):=hcell HA_Wd.out 0
       have a1:Wd.cell? ⟨n1,1,none⟩=some (.int .i64 y.pid):=hcell HA_Wd.out 1
       have b0:Wd.cell? ⟨n2,0,none⟩=some (.int .u64 x.at_):=hcell HD_Wd.out 0
       have b1:Wd.cell? ⟨n2,1,none⟩=some (.int .i64 x.pid):=hcell HD_Wd.out 1
       clear hp HD_Wc HB_Wc)
     |go_values|go_skip|go_guarded|(with_reducible refine Way.go ?_)|go_step|go_upon)
     exact ⟨⟨i + 1,by omega,.inl (by omega),by go_num,HB_Wd.out⟩,by simp [intOf];omega⟩
  · clear hb
    have hle:¬ (i:Int)<(l.length:Int):=by omega
    repeat' (first|go_values|go_skip|go_guarded|(with_reducible refine Way.go ?_)|go_step|go_upon)
    go_ret
    exact gives_of rfl HB.out
set_option maxRecDepth 100000 in
set_option maxHeartbeats 4000000 in
theorem RRightH (v:Value) (l:List Span) (n:Int) (w:World) (h:SlS w v l) (hr:hrightFrom n l 0=true) (h0:0≤n) (hn:n≤9223372036854775807):Calls Tryz.prog 17 #[.agg #[.int .i64 n,v]] w (Gives (.bool true) w):=by
 obtain ⟨a,c,rfl,h1,h2⟩:=h.shape
 have H:=hU h.elem.2.2.2
 clear h
 obtain ⟨W0,hW0,hb0,H0⟩:=nb1 (W:=w) (.cells #[.int .i64 n,.slice a l.length c] 38) rfl
 have HB0:=hU hb0
 have hz:=hlt H0.out
 have f0:W0.cell? ⟨w.heap.size,0,none⟩=some (.int .i64 n):=hcell H0.out 0
 have dn:decide (n<0)=false:=by simp;omega
 clear hb0
 go_enter Tryz.func17,Tryz.ntmps17
 repeat' (first|(rw [hW0];clear hW0)|go_values|go_skip|go_guarded|(with_reducible refine Way.go ?_)|go_step|go_upon)
 clear f0 dn
 go_loopw [3] (fun iv wr=> SameR W0 l.length iv wr) (fun iv _=> l.length - (intOf iv).toNat)
 case atStart=> exact ⟨0,Nat.zero_le _,rfl,Below.refl _ _⟩
 case round=>
  obtain ⟨i,hi,rfl,hb⟩:=hrel
  have HB:=hU hb
  have H1:=nB hb H0
  have hsz:=hb.size
  have f0:wr.cell? ⟨w.heap.size,0,none⟩=some (.int .i64 n):=hcell H1.out 0
  have f1:wr.cell? ⟨w.heap.size,1,none⟩=some (.slice a l.length c):=hcell H1.out 1
  by_cases hil:i<l.length
  · obtain ⟨x,hx⟩:∃ x,l[i]? =some x:=⟨_,List.getElem?_eq_getElem hil⟩
    obtain ⟨q1,q2,q3⟩:=hr_at hr hx
    obtain ⟨g1,o1,rfl,_,hc1⟩:=H.out i x hx
    have hj1:(i:Int)<(l.length:Int):=by omega
    have hj0:(0:Int)≤(i:Int):=by omega
    have HC:=hU (hc1 wr ((HB0.out.trans (hb.mono HB0.out.size)).mono (Nat.le_refl _)))
    have d0:decide (x.at_<0)=false:=by simp;omega
    have d1:decide (x.n<1)=false:=by simp;omega
    have d2:decide (n<x.at_)=false:=by simp;omega
    have hw:IntKind.i64.wrap (n - x.at_)=n - x.at_:=by rw [IntKind.wrap_i64];omega
    have d3:decide (n - x.at_<x.n)=false:=by simp;omega
    have HPREV:Hid (∀ j y,i=j + 1→l[j]? =some y→y.at_ + y.n≤x.at_∧0≤y.at_∧1≤y.n):=hU (fun j y hj hy=> by
     subst hj
     have e1:=hr_next hr hy hx
     have e2:=hr_at hr hy
     omega)
    clear hc1 hb
    obtain ⟨n1,haA,hn1,hn2⟩:∃ n1,wr.heap.size=n1∧w.heap.size<n1∧W0.heap.size≤n1:=⟨_,rfl,hlt H1.out,hsz⟩
    obtain ⟨Wa,hWa,hba,HA_Wa⟩:=nb1 (.cells #[.int .i64 0,.int .i64 0,.int .i64 0] 66) haA
    have HB_Wa:=hU (HB.out.trans (hba.mono hsz))
    have H1_Wa:=nB hba H1
    have HC_1:=HC
    clear hba HC
    repeat' (first
     |(refine wpList_load (t:=66) (v:=.agg x.cells) rfl rfl rfl (run_load_arr aggSpan rfl HC_1.out) ?_)
     |(rw [hWa,haA];clear hWa)
     |(refine wpList_store (t:=66) (v:=.agg x.cells) (off:=0) (new:=x.cells) rfl rfl rfl rfl aggSpan.size HA_Wa.out rfl (show 0 + 3≤3 by decide) (onesSpan x) rfl ?_;intro Wb hp
       have HB_Wb:=hU (Below.put HB_Wa.out hp (by have:=HB.out.size;omega))
       have HA_Wb:=pA hp
       have H1_Wb:=pO hp H1_Wa
       have a0:Wb.cell? ⟨n1,0,none⟩=some (.int .i64 x.at_):=hcell HA_Wb.out 0
       have a1:Wb.cell? ⟨n1,1,none⟩=some (.int .i64 x.n):=hcell HA_Wb.out 1
       have b0:Wb.cell? ⟨w.heap.size,0,none⟩=some (.int .i64 n):=hcell H1_Wb.out 0
       clear hp HA_Wa HB_Wa)
     |go_values|go_skip|go_guarded|(with_reducible refine Way.go ?_)|go_step|go_upon)
    clear f0 f1 b0 a1 d0 d1 d2 d3 hw HC_1
    have f1:Wb.cell? ⟨w.heap.size,1,none⟩=some (.slice (some ⟨g1,o1,none⟩) l.length c):=hcell H1_Wb.out 1
    rcases Nat.eq_zero_or_pos i with h0'|h0'
    · have d4:decide ((0:Int)<(i:Int))=false:=by simp;omega
      have d4n:decide (0<i)=false:=by simp;omega
      clear hx h0'
      refine wp_region_noPanic ?_
      refine go0 (S:=fun W=> W.cell? ⟨n1,0,none⟩=some (.int .i64 x.at_)) [] a0 fun hS=> ?_
      refine tp 0 ?_;(try simp only [acts])
      refine tp 1 ?_;(try simp only [acts])
      refine tp 2 ?_;(try simp only [acts])
      refine tn 3 ?_;(try simp only [acts])
      refine tn 4 ?_;(try simp only [acts])
      refine tn 5 ?_;(try simp only [acts])
      refine tn 6 ?_;(try simp only [acts])
      refine tn 7 ?_;(try simp only [acts])
      refine tn 8 ?_;(try simp only [acts])
      refine tn 9 ?_;(try simp only [acts])
      refine tn 10 ?_;(try simp only [acts])
      refine tn 11 ?_;(try simp only [acts])
      refine tn 12 ?_;(try simp only [acts])
      refine tn 13 ?_;(try simp only [acts])
      refine tn 14 ?_;(try simp only [acts])
      refine tn 15 ?_;(try simp only [acts])
      refine tn 16 ?_;(try simp only [acts])
      refine tn 17 ?_;(try simp only [acts])
      refine tn 18 ?_;(try simp only [acts])
      refine tn 19 ?_;(try simp only [acts])
      refine tn 20 ?_;(try simp only [acts])
      refine tp 21 ?_;(try simp only [acts])
      refine doneL (by kernel_rfl) (NoPanic.normal ?_) _
      clear hS
      repeat' (first|go_values|go_skip|go_guarded|(with_reducible refine Way.go ?_)|go_step|go_upon)
      exact ⟨⟨i + 1,by omega,by go_num,HB_Wb.out.drew⟩,by simp [intOf];omega⟩
    · obtain ⟨j,hj⟩:∃ j,i=j + 1:=⟨i - 1,by omega⟩
      obtain ⟨y,hy⟩:∃ y,l[j]? =some y:=⟨_,List.getElem?_eq_getElem (by omega)⟩
      obtain ⟨p1,p2,p3⟩:=HPREV.out j y hj hy
      obtain ⟨g2,o2,he,_,hc2⟩:=H.out j y hy
      injection he with he
      injection he with eg eo
      subst eg eo
      have hbb:=(HB0.out.trans (HB_Wb.out.mono HB0.out.size))
      have c0:Wb.cell? ⟨g1,o1 + j * 3,none⟩=some (.int .i64 y.at_):=hc2 Wb hbb 0 _ rfl
      have c1:Wb.cell? ⟨g1,o1 + j * 3 + 1,none⟩=some (.int .i64 y.n):=hc2 Wb hbb 1 _ rfl
      have d4:decide ((0:Int)<(i:Int))=true:=by simp;omega
      have d4n:decide (0<i)=true:=by simp;omega
      have d5:decide (x.at_<y.at_ + y.n)=false:=by simp;omega
      have hw1:IntKind.i64.wrap ((i:Int) - 1)=(j:Int):=by rw [IntKind.wrap_i64];omega
      have hw2:IntKind.i64.wrap (y.at_ + y.n)=y.at_ + y.n:=by rw [IntKind.wrap_i64];omega
      have hk1:(j:Int)<(l.length:Int):=by omega
      have hk0:(0:Int)≤(j:Int):=by omega
      clear hc2 hx hy h0' hj hbb p1 p2 p3
      refine wp_region_noPanic ?_
      refine go0 (S:=fun W=> W.cell? ⟨n1,0,none⟩=some (.int .i64 x.at_)∧W.cell? ⟨w.heap.size,1,none⟩=some (.slice (some ⟨g1,o1,none⟩) l.length c)∧W.cell? ⟨g1,o1 + j * 3,none⟩=some (.int .i64 y.at_)∧W.cell? ⟨g1,o1 + j * 3 + 1,none⟩=some (.int .i64 y.n)) [] ⟨a0,f1,c0,c1⟩ fun hS=> ?_
      refine tp 0 ?_;(try simp only [acts])
      refine tp 1 ?_;(try simp only [acts])
      refine tp 2 ?_;(try simp only [acts])
      refine tp 3 ?_;(try simp only [acts])
      refine tl 4 ?_;(try simp only [acts])
      refine tp 5 ?_;(try simp only [acts])
      refine tp 6 ?_;(try simp only [acts])
      refine tp 7 ?_;(try simp only [acts])
      refine tp 8 ?_;(try simp only [acts])
      refine tl 9 ?_;(try simp only [acts])
      refine tp 10 ?_;(try simp only [acts])
      refine tl 11 ?_;(try simp only [acts])
      refine tp 12 ?_;(try simp only [acts])
      refine tp 13 ?_;(try simp only [acts])
      refine tp 14 ?_;(try simp only [acts])
      refine tp 15 ?_;(try simp only [acts])
      refine tl 16 ?_;(try simp only [acts])
      refine tp 17 ?_;(try simp only [acts])
      refine tp 18 ?_;(try simp only [acts])
      refine tl 19 ?_;(try simp only [acts])
      refine tp 20 ?_;(try simp only [acts])
      refine tp 21 ?_;(try simp only [acts])
      refine doneL (by kernel_rfl) (NoPanic.normal ?_) _
      clear hS
      repeat' (first|go_values|go_skip|go_guarded|(with_reducible refine Way.go ?_)|go_step|go_upon)
      exact ⟨⟨i + 1,by omega,by go_num,HB_Wb.out.drew⟩,by simp [intOf];omega⟩
  · clear hb
    repeat' (first|go_values|go_skip|go_guarded|(with_reducible refine Way.go ?_)|go_step|go_upon)
    go_ret
    exact gives_of rfl (HB0.out.trans (HB.out.mono HB0.out.size))
end Kn
end Go.Proofs.YtalapfkfdhpomaaGreatDoor
