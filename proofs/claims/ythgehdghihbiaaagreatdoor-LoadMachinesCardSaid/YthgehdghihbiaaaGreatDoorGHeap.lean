/- heap.Right: is a room right? Condition: the spans lie there. heap.New and heap.Drop. Condition: as many spans as Go can hold. heap.holes: an iterator over what is free. Conditions: the room is right. -/
import Derived.Test.YthgehdghihbiaaaGreatDoorGTabF
import Derived.Test.YthgehdghihbiaaaGreatDoorGPort
set_option linter.unusedVariables false
set_option maxRecDepth 100000
set_option maxHeartbeats 8000000
set_option linter.unusedSimpArgs false
namespace Go.Proofs.YthgehdghihbiaaaGreatDoor
open Go.RowKit KR
namespace Kn
abbrev SlS (W:World) (v:Value) (l:List Span):Prop:=Sl 256 3 Span.cells W v l
abbrev OwnS (B:Nat) (W:World) (v:Value) (l:List Span):Prop:=KR.Own 256 3 Span.cells B W v l
def RightAt (w:World) (size:Int) (l:List Span) (av iv:Value) (wr:World):Prop:=
 ∃ (k:Nat) (a:Int),k≤l.length∧iv=.int .i64 k∧av=.int .i64 a∧0≤a∧(a=0∨a≤size)∧hrightFrom size l 0=hrightFrom size (l.drop k) a∧Below w.heap.size w wr
theorem right_step {size a:Int} {l:List Span} {k:Nat} {s:Span} (hx:l[k]? =some s) (h1:¬ s.at_<a) (h2:¬ s.n<1) (h3:¬ size<s.n) (h4:¬ size - s.n<s.at_):hrightFrom size (l.drop k) a=hrightFrom size (l.drop (k + 1)) (s.at_ + s.n):=by
 rw [(take_succ_get hx).2,hrightFrom]
 simp [h1,h2,h3,h4]
theorem right_no {size a:Int} {l:List Span} {k:Nat} {s:Span} (hx:l[k]? =some s) (h:s.at_<a∨s.n<1∨size<s.n∨size - s.n<s.at_):hrightFrom size (l.drop k) a=false:=by
 rw [(take_succ_get hx).2,hrightFrom]
 rcases h with h|h|h|h <;> simp [h]
theorem HRight (u:Value) (size:Int) (l:List Span) (w:World) (h:SlS w u l) (hs0: -9223372036854775808≤size) (hs1:size≤9223372036854775807):
 Calls Tryz.prog 114 #[.agg #[.int .i64 size,u]] w (Gives (.bool (hright size l)) w):=by
 obtain ⟨a,c,rfl,hnc,hmax⟩:=h.shape
 obtain ⟨_,_,_,hel⟩:=h.elem
 have HEL:=hU hel
 clear hel h
 go_enter Tryz.func114,Tryz.ntmps114
 repeat' (first|go_values|go_skip|go_guarded|(with_reducible refine wg ?_)|go_step|go_upon)
 have HB0:=hU ((Below.refl w.heap.size w).alloc (Nat.le_refl _) (.cells #[.int .i64 size,.slice a l.length c] 65))
 have HH0:=hU (hnew w (.cells #[.int .i64 size,.slice a l.length c] 65))
 go_loopw [3,9] (fun av iv wr=> RightAt (w.alloc (.cells #[.int .i64 size,.slice a l.length c] 65)) size l av iv wr) (fun _ iv _=> l.length - (intOf iv).toNat)
 case atStart=> exact ⟨0,0,Nat.zero_le _,rfl,rfl,Int.le_refl _,.inl rfl,rfl,Below.refl _ _⟩
 case round=>
  obtain ⟨k,at_,hk,rfl,rfl,ha0,ha1,he,hb⟩:=hrel
  have HB:=hU hb
  have HE:=hU he
  have HHr:=hU ((hb.block w.heap.size (by simp)).trans HH0.out)
  have hz:=hb.size
  simp only [World.size_alloc] at hz
  have k0:wr.cell? ⟨w.heap.size,0,none⟩=some (.int .i64 size):=hcell HHr.out 0
  clear hb he
  by_cases hlt:k<l.length
  · obtain ⟨x,hx⟩:∃ x,l[k]? =some x:=⟨_,List.getElem?_eq_getElem hlt⟩
    obtain ⟨b,off,rfl,hbl,hcell'⟩:=HEL.out k x hx
    have hc:=hcell' wr (Below.to HB0.out HB.out)
    have q0:wr.cell? ⟨b,off + k * 3,none⟩=some (.int .i64 x.at_):=hc 0 _ rfl
    have q1:wr.cell? ⟨b,off + k * 3 + 1,none⟩=some (.int .i64 x.n):=hc 1 _ rfl
    have q2:wr.cell? ⟨b,off + k * 3 + 2,none⟩=some (.int .i64 x.who):=hc 2 _ rfl
    have hbr:b<wr.heap.size:=by omega
    have hwz:w.heap.size<wr.heap.size:=by omega
    have HST:=hU (@right_step size at_ l k x hx)
    have HNO:=hU (@right_no size at_ l k x hx)
    clear hcell' hx hc
    by_cases c1:x.at_<at_
    · have HF:=hU (HNO.out (.inl c1))
      repeat' (first|go_values|go_skip|go_guarded|(with_reducible refine wg ?_)|go_step|go_upon)
      go_ret
      exact gives_bool (by rw [hright,HE.out,HF.out];rfl) (Below.to HB0.out (Below.to HB.out bel))
    by_cases c2:x.n<1
    · have HF:=hU (HNO.out (.inr (.inl c2)))
      repeat' (first|go_values|go_skip|go_guarded|(with_reducible refine wg ?_)|go_step|go_upon)
      go_ret
      exact gives_bool (by rw [hright,HE.out,HF.out];rfl) (Below.to HB0.out (Below.to HB.out bel))
    by_cases c3:size<x.n
    · have HF:=hU (HNO.out (.inr (.inr (.inl c3))))
      repeat' (first|go_values|go_skip|go_guarded|(with_reducible refine wg ?_)|go_step|go_upon)
      go_ret
      exact gives_bool (by rw [hright,HE.out,HF.out];rfl) (Below.to HB0.out (Below.to HB.out bel))
    have hw4:IntKind.i64.wrap (size - x.n)=size - x.n:=by rw [IntKind.wrap_i64];omega
    by_cases c4:size - x.n<x.at_
    · have HF:=hU (HNO.out (.inr (.inr (.inr c4))))
      repeat' (first|go_values|go_skip|go_guarded|(with_reducible refine wg ?_)|go_step|go_upon)
      go_ret
      exact gives_bool (by rw [hright,HE.out,HF.out];rfl) (Below.to HB0.out (Below.to HB.out bel))
    have HS:=hU (HST.out c1 c2 c3 c4)
    have hw5:IntKind.i64.wrap (x.at_ + x.n)=x.at_ + x.n:=by rw [IntKind.wrap_i64];omega
    repeat' (first|go_values|go_skip|go_guarded|(with_reducible refine wg ?_)|go_step|go_upon)
    exact ⟨⟨k + 1,x.at_ + x.n,by omega,by go_num,by go_num,by omega,.inr (by omega),by rw [HE.out,HS.out],Below.to HB.out bel⟩,by simp [intOf];omega⟩
  · obtain rfl:k=l.length:=by omega
    rw [List.drop_length] at *
    repeat' (first|go_values|go_skip|go_guarded|(with_reducible refine wg ?_)|go_step|go_upon)
    go_ret
    exact gives_bool (by rw [hright,HE.out];simp [hrightFrom]) (Below.to HB0.out HB.out)
theorem HNew (size:Int) (w:World):Calls Tryz.prog 90 #[.int .i64 size] w (Gives (.tuple #[.agg #[.int .i64 (if size<0 then 0 else size),.slice none 0 0],.int .i64 (if size<0 then 1 else 0)]) w):=by
 by_cases h:size<0
 · rw [if_pos h,if_pos h]
   go_enter Tryz.func90,Tryz.ntmps90
   repeat' (first|go_values|go_skip|go_guarded|(with_reducible refine wg ?_)|go_step|go_upon)
   all_goals
    (apply bodyPost_ret;(simp only [results,Tryz.results90];go_simp;exact rfl);rfl)
    exact ⟨rfl,bel⟩
 · rw [if_neg h,if_neg h]
   go_enter Tryz.func90,Tryz.ntmps90
   repeat' (first|go_values|go_skip|go_guarded|(with_reducible refine wg ?_)|go_step|go_upon)
   all_goals
    (apply bodyPost_ret;(simp only [results,Tryz.results90];go_simp;exact rfl);rfl)
    exact ⟨rfl,bel⟩
end Kn
end Go.Proofs.YthgehdghihbiaaaGreatDoor
namespace Go.Proofs.YthgehdghihbiaaaGreatDoor
open Go.RowKit KR
attribute [local go_sem] Oper.semAt_some
namespace KR
theorem wp_append_run {P:Program} {w:World} {o:Oper} {a:Act} {K:Act→World→Prop} {Q:Exit→Act→World→Prop} (s x:Operand) (t u:TypeId) (hop:o.op=Op.call {callee:=Callee.builtin Builtin.append,args:=#[s,x],argTypes:=#[t,u]})
 (sv xv:Value) (hs:a.eval s=sv) (hx:a.eval x=xv) (v':Value) (w':World) (hrun:(Builtin.append_ #[t,u] o.type #[sv,xv]).run P w=.ok v' w') (hK:K (a.put o.dst v') w'):o.wp P a w K Q:=by
 unfold Oper.wp
 simp [execOp,hop,resolve,invoke,builtin,hs,hx,hrun,Result.andThen]
 exact hK
end KR
namespace Kn
def gaps:List Span→Int→List Span
 |[],_=> []
 |s::r,a=> (if a<s.at_ then [⟨a,s.at_ - a,0⟩] else []) ++ gaps r (s.at_ + s.n)
def holesOf (size:Int) (l:List Span):List Span:=gaps (l ++ [(⟨size,0,0⟩:Span)]) 0
theorem right_pos {size:Int} {l:List Span} (h:hright size l=true):0≤size:=by
 unfold hright at h
 simp at h
 exact h.2
theorem right_from {size:Int} {l:List Span} (h:hright size l=true):hrightFrom size l 0=true:=by
 unfold hright at h
 simp at h
 exact h.1
theorem right_cons {size t:Int} {s:Span} {r:List Span} (h:hrightFrom size (s::r) t=true):t≤s.at_∧1≤s.n∧s.n≤size∧s.at_≤size - s.n∧hrightFrom size r (s.at_ + s.n)=true:=by
 unfold hrightFrom at h
 simp at h
 obtain ⟨⟨⟨⟨h1,h2⟩,h3⟩,h4⟩,h5⟩:=h
 exact ⟨h1,by omega,h3,h4,h5⟩
theorem gap_step {size t:Int} {l:List Span} {k:Nat} {x:Span} (hx:(l ++ [(⟨size,0,0⟩:Span)])[k]? =some x) (hr:hrightFrom size (l.drop k) t=true) (ht0:0≤t) (ht:t≤size):
 t≤x.at_∧0≤x.n∧x.n≤size∧x.at_≤size∧x.at_ + x.n≤size∧hrightFrom size (l.drop (k + 1)) (x.at_ + x.n)=true∧
  gaps ((l ++ [(⟨size,0,0⟩:Span)]).drop k) t=(if t<x.at_ then [⟨t,x.at_ - t,0⟩] else []) ++ gaps ((l ++ [(⟨size,0,0⟩:Span)]).drop (k + 1)) (x.at_ + x.n):=by
 have hd:=(take_succ_get hx).2
 have hg:gaps ((l ++ [(⟨size,0,0⟩:Span)]).drop k) t=(if t<x.at_ then [⟨t,x.at_ - t,0⟩] else []) ++ gaps ((l ++ [(⟨size,0,0⟩:Span)]).drop (k + 1)) (x.at_ + x.n):=by rw [hd,gaps]
 by_cases hk:k<l.length
 · rw [List.getElem?_append_left hk] at hx
   rw [(take_succ_get hx).2] at hr
   obtain ⟨h1,h2,h3,h4,h5⟩:=right_cons hr
   exact ⟨h1,by omega,h3,by omega,by omega,h5,hg⟩
 · have hkl:=(List.getElem?_eq_some_iff.1 hx).1
   rw [List.length_append,List.length_singleton] at hkl
   obtain rfl:k=l.length:=by omega
   rw [List.getElem?_append_right (Nat.le_refl _),Nat.sub_self] at hx
   injection hx with hx
   subst hx
   exact ⟨ht,Int.le_refl _,by dsimp only;have:=hkl;omega,Int.le_refl _,by simp,by rw [List.drop_eq_nil_of_le (by omega)];rfl,hg⟩
theorem clipSpan (a:Option Addr) (n c:Nat) (w:World) (h:n≤c):Calls Tryz.prog 136 #[.slice a n c] w (Is (.slice a n n) w):=by
 go_enter Tryz.func136,Tryz.ntmps136
 repeat' (first|go_values|go_skip|go_guarded|(with_reducible refine wg ?_)|go_step|go_upon)
 go_ret
 exact ⟨rfl,rfl⟩
theorem holes1_in (y n:Nat) (Bh:Nat) (K:Nat→Prop) (u:Value) (size:Int) (l:List Span) (J Jx:List Span→World→Prop) (W:World)
 (hY:∀ pre x W1,J pre W1→pre.length<l.length + 1→YieldAt Fence.wide (n - 1) Tryz.prog y #[.agg x.cells] W1 fun e W'=> (e=.returned (.bool true)∧J (pre ++ [x]) W'∧KeepsAt K W1 W')∨(e=.returned (.bool false)∧Jx (pre ++ [x]) W'))
 (hJ:AbidesFrom W.heap.size J) (hch:W.heap[Bh]? =some (.cells #[.int .i64 size,u] 65 (0,0))) (hS:SlS W u l) (hKn:∀ k,W.heap.size≤k→K k) (hr:hright size l=true) (hs:size≤9223372036854775807) (hn:l.length≤1000000) (h0:J [] W):
 CallsIn Fence.wide n Tryz.prog 135 #[.func (.yield y) #[] #[],.pointer (some ⟨Bh,0,none⟩)] W fun e W'=> (∃ v,e=.returned v)∧
  ((∃ ys,ys=holesOf size l∧J ys W')∨(∃ pre,pre <+:holesOf size l∧Jx pre W')):=by
 obtain ⟨a,c,rfl,hnc,hcm⟩:=hS.shape
 have k0:W.cell? ⟨Bh,0,none⟩=some (.int .i64 size):=hcell hch 0
 have k1:W.cell? ⟨Bh,1,none⟩=some (.slice a l.length c):=hcell hch 1
 have hBh:=hlt hch
 have HS:=hU hS
 have HCH:=hU hch
 obtain ⟨N,hN⟩:∃ N,l.length=N:=⟨_,rfl⟩
 have HNN:=hU hN
 obtain ⟨v',W',hrun,hown,hb⟩:=append_full (P:=Tryz.prog) (bytes:=24) (t:=63) (ty:=63) szSpan (by decide) Tryz.underlying63 (by kernel_rfl) onesSpan (w:=W.drew.alloc (.cells #[.int .i64 size,.int .i64 0,.int .i64 0] 256)) (a:=a) (n:=l.length) (c:=1) (l:=l) ((HS.out.clip.drew).alloc _) (x:=⟨size,0,0⟩) (xb:=W.heap.size) (hnew W.drew _) (by unfold maxLen;omega) (by omega)
 have HRUN:=hU hrun
 have HO:=hU (hown.sl szSpan)
 have HOW:=hU hown
 have HB1:=hU (Below.to (Below.drew (Below.refl W.heap.size W)) (Below.to ((Below.refl W.drew.heap.size W.drew).alloc (Nat.le_refl _) _) hb))
 obtain ⟨a',c',hv',hsa,hsb⟩:=(hown.sl szSpan).shape
 have hlen:(l ++ [(⟨size,0,0⟩:Span)]).length=N + 1:=by simp [hN]
 rw [hlen] at hv'
 rw [hN] at k1 hnc HRUN hn hY
 subst hv'
 have HLEN:=hU hlen
 clear hrun hown hb hS hch hN hlen hsa hsb
 refine callsIn_of_wp Tryz.func135 rfl trivial ?_ rfl
 refine wpIn_wide.2 ?_
 simp only [Tryz.ntmps135,List.size_toArray,List.length_cons,List.length_nil,Nat.reduceAdd,Nat.reduceSub,Array.replicate_succ,Array.replicate_zero,List.push_toArray,List.append_toArray,List.nil_append,List.cons_append]
 repeat' (first|go_values|go_skip|go_guarded|(with_reducible refine wg ?_)|go_step|go_upon)
 refine RegTail.startL (st:=[]) (S:=fun W=> W.cell? ⟨Bh,0,none⟩=some (.int .i64 size)∧W.cell? ⟨Bh,1,none⟩=some (.slice a N c)) (by kernel_rfl) ?_
 have hS:(fun W:World=> W.cell? ⟨Bh,0,none⟩=some (.int .i64 size)∧W.cell? ⟨Bh,1,none⟩=some (.slice a N c)) W.drew:=⟨k0,k1⟩
 (refine RegTail.tl 0 ?_);(try simp only [RegT3.acts])
 (refine RegTail.tl 1 ?_);(try simp only [RegT3.acts])
 (refine RegTail.tl 3 ?_);(try simp only [RegT3.acts])
 (refine RegTail.tl 4 ?_);(try simp only [RegT3.acts])
 (refine RegTail.tl 5 ?_);(try simp only [RegT3.acts])
 (refine RegTail.tl 9 ?_);(try simp only [RegT3.acts])
 refine RegTail.twoL (i:=2) (j:=6) (by kernel_rfl) rfl rfl (fun K hK=> ?_) (fun K hK=> ?_)
 refine RegTail.want rfl ?_
 go_simp
 refine (clipSpan _ _ _ _ hnc).mono ?_
 rintro e w3 ⟨rfl,rfl⟩
 dsimp only
 refine hK.out _ _ (fun _=> ⟨k0,k1⟩) ?_
 clear hK K
 (refine RegTail.ro 6 fun K hK=> ?_)
 go_simp
 refine hK.out _ _ (fun _=> ⟨(World.cell?_of_block (w:=W) (Lib.alloc_old W _ Bh hBh)).trans k0,(World.cell?_of_block (w:=W) (Lib.alloc_old W _ Bh hBh)).trans k1⟩) ?_
 clear hK K
 rotate_left
 go_simp
 refine hK.out _ _ (fun _=> ⟨(World.cell?_of_block (w:=W) (Lib.alloc_old W _ Bh hBh)).trans k0,(World.cell?_of_block (w:=W) (Lib.alloc_old W _ Bh hBh)).trans k1⟩) ?_
 clear hK K
 (refine RegTail.ro 2 fun K hK=> ?_)
 refine RegTail.want rfl ?_
 go_simp
 refine (clipSpan _ _ _ _ hnc).mono ?_
 rintro e w3 ⟨rfl,rfl⟩
 dsimp only
 refine hK.out _ _ (fun _=> ⟨(World.cell?_of_block (w:=W) (Lib.alloc_old W _ Bh hBh)).trans k0,(World.cell?_of_block (w:=W) (Lib.alloc_old W _ Bh hBh)).trans k1⟩) ?_
 clear hK K
 all_goals
  (refine RegTail.ro 7 fun K hK=> ?_)
  refine RegTail.want rfl ?_
  refine wp_append_run _ _ _ _ rfl _ _ rfl rfl _ _ HRUN.out ?_
  refine hK.out _ _ (fun _=> ⟨hcell ((HB1.out.block Bh hBh).trans HCH.out) 0,by rw [← HNN.out];exact hcell ((HB1.out.block Bh hBh).trans HCH.out) 1⟩) ?_
  clear hK K
  (try simp only [Act.put,List.getElem_toArray,List.getElem_cons_zero,List.getElem_cons_succ,List.setIfInBounds_toArray,List.set_cons_zero,List.set_cons_succ])
  (refine RegTail.ro 8 fun K hK=> ?_)
  go_simp
  refine hK.out _ _ (fun _=> ⟨hcell ((HB1.out.block Bh hBh).trans HCH.out) 0,by rw [← HNN.out];exact hcell ((HB1.out.block Bh hBh).trans HCH.out) 1⟩) ?_
  clear hK K
  refine RegTail.doneL (by kernel_rfl) ?_ _
  repeat' (first|go_values|go_skip|go_guarded|(with_reducible refine wg ?_)|go_step|go_upon)
  refine (wpIn_wide (n:=n)).1 ?_
  gi_loopw [3,15] (fun av iv wr=> ∃ (k:Nat) (t:Int) (pre:List Span),k≤N + 1∧iv=.int .i64 k∧av=.int .i64 t∧J pre wr∧KeepsAt K W' wr∧0≤t∧t≤size∧pre.length≤k∧hrightFrom size (l.drop k) t=true∧pre ++ gaps ((l ++ [(⟨size,0,0⟩:Span)]).drop k) t=holesOf size l) (fun _ iv _=> N + 1 - (intOf iv).toNat)
  case atStart=> exact ⟨0,0,[],Nat.zero_le _,rfl,rfl,abides_below hJ h0 HB1.out,KeepsAt.refl _ _,Int.le_refl _,right_pos hr,Nat.le_refl _,right_from hr,rfl⟩
  case round=>
   obtain ⟨k,t,pre,hk,rfl,rfl,hJs,hKw,ht0,ht1,hpl,hrf,hgap⟩:=hrel
   have HSr:Hid (SlS wr (.slice a' (N + 1) c') (l ++ [(⟨size,0,0⟩:Span)])):=hU (by
    have h2:KR.Own 256 3 Span.cells (W.drew.alloc (.cells #[.int .i64 size,.int .i64 0,.int .i64 0] 256)).heap.size wr (.slice a' (N + 1) c') (l ++ [(⟨size,0,0⟩:Span)]):=by
     obtain ⟨e0,e|⟨g,cap,cur,hv,hB,hg,e4⟩⟩:=HOW.out
     · exact ⟨e0,.inl e⟩
     · exact ⟨e0,.inr ⟨g,cap,cur,hv,hB,hKw.2 g cur _ (hKn g (by simp at hB;omega)) hg,e4⟩⟩
    exact KR.Own.sl szSpan h2)
   have HKW:=hU hKw
   clear hKw
   by_cases hlt':k<N + 1
   · obtain ⟨x,hx⟩:∃ x,(l ++ [(⟨size,0,0⟩:Span)])[k]? =some x:=⟨_,List.getElem?_eq_getElem (by rw [HLEN.out];exact hlt')⟩
     obtain ⟨g1,g2,g3,g4,g5,g6,g7⟩:=gap_step hx hrf ht0 ht1
     obtain ⟨hnl,hnc2,hcm2,hel⟩:=HSr.out.elem
     clear hnl
     obtain ⟨b,off,rfl,hbl,hcell'⟩:=hel k x hx
     have hc:=hcell' wr (Below.refl _ _)
     have q0:wr.cell? ⟨b,off + k * 3,none⟩=some (.int .i64 x.at_):=hc 0 _ rfl
     have q1:wr.cell? ⟨b,off + k * 3 + 1,none⟩=some (.int .i64 x.n):=hc 1 _ rfl
     have q2:wr.cell? ⟨b,off + k * 3 + 2,none⟩=some (.int .i64 x.who):=hc 2 _ rfl
     have hw1:IntKind.i64.wrap (x.at_ - t)=x.at_ - t:=by rw [IntKind.wrap_i64];omega
     have hw2:IntKind.i64.wrap (x.at_ + x.n)=x.at_ + x.n:=by rw [IntKind.wrap_i64];omega
     have hgp:=hgap
     rw [g7] at hgp
     have hb2:Below wr.heap.size wr (wr.alloc (.cells #[.int .i64 x.at_,.int .i64 x.n,.int .i64 x.who] 256)):=(Below.refl _ _).alloc (Nat.le_refl _) _
     have HJ2:=hU (abides_below hJ hJs hb2)
     clear hcell' hel hc
     by_cases ht:t<x.at_
     · rw [if_pos ht] at hgp
       obtain ⟨fn,tmps,assign,body,hy,hR⟩:=hY pre ⟨t,x.at_ - t,0⟩ _ HJ2.out (by omega)
       simp only [Span.cells] at hy
       gi_wp2
       refine ⟨fun h=> by simp [Fence.wide] at h,hR.mono ?_⟩
       rintro e W3 (⟨rfl,hJ3,hk3⟩|⟨rfl,hJx3⟩)
       · have hxb:=hk3.2 wr.heap.size _ _ (hKn _ (by have:=HKW.out.1;have:=HB1.out.size;omega)) (hnew wr _)
         have r0:W3.cell? ⟨wr.heap.size,0,none⟩=some (.int .i64 x.at_):=hcell hxb 0
         have r1:W3.cell? ⟨wr.heap.size,1,none⟩=some (.int .i64 x.n):=hcell hxb 1
         have HJ3:=hU hJ3
         have HK3:=hU (keepsAt_t HKW.out (keepsAt_t (KeepsAt.of_below hb2) hk3))
         clear hJ3 hk3 hy hxb
         gi_wp2
         go_roundw
         case rel=> exact ⟨k + 1,x.at_ + x.n,pre ++ [⟨t,x.at_ - t,0⟩],by omega,by go_num,by go_num,HJ3.out,HK3.out,by omega,g5,by simp;omega,g6,by rw [← hgp,List.append_assoc]⟩
         case measure=> simp [intOf];omega
       · gi_wp2
         refine bodyPost_ret (results_none rfl _ _ _) rfl ?_
         exact ⟨⟨_,rfl⟩,.inr ⟨pre ++ [⟨t,x.at_ - t,0⟩],⟨_,by rw [← hgp,List.append_assoc]⟩,hJx3⟩⟩
     · rw [if_neg ht] at hgp
       gi_wp2
       refine ⟨fun _ h=> (by cases h),?_⟩
       gi_wp2
       go_roundw
       case rel=> exact ⟨k + 1,x.at_ + x.n,pre,by omega,by go_num,by go_num,HJ2.out,keepsAt_t HKW.out (KeepsAt.of_below hb2),by omega,g5,by omega,g6,hgp⟩
       case measure=> simp [intOf];omega
   · obtain rfl:k=N + 1:=by omega
     rw [List.drop_eq_nil_of_le (by rw [HLEN.out];omega),gaps,List.append_nil] at hgap
     gi_wp2
     go_end0
     exact ⟨⟨_,rfl⟩,.inl (hgap ▸ hJs)⟩
theorem holes_in (n:Nat) (size:Int) (a:Option Addr) (m c:Nat) (w:World):
 CallsIn Fence.wide n Tryz.prog 115 #[.agg #[.int .i64 size,.slice a m c]] w fun e w'=> e=.returned (.func (.func 135) #[] #[.pointer (some ⟨w.heap.size,0,none⟩)])∧w'=w.alloc (.cells #[.int .i64 size,.slice a m c] 65):=by
 refine callsIn_of_wp Tryz.func115 rfl trivial ?_ rfl
 simp only [Tryz.ntmps115,List.size_toArray,List.length_cons,List.length_nil,Nat.reduceAdd,Nat.reduceSub,Array.replicate_succ,Array.replicate_zero,List.push_toArray,List.append_toArray,List.nil_append,List.cons_append]
 gi_wp2
 go_ret
 exact ⟨rfl,rfl⟩
theorem holes_stops (n:Nat) (K:Nat→Prop) (u:Value) (size:Int) (l:List Span) (Bh:Nat) (w:World) (hl:w.heap[Bh]? =some (.cells #[.int .i64 size,u] 65 (0,0))) (hS:SlS w u l) (hKn:∀ k,w.heap.size≤k→K k) (hr:hright size l=true) (hs:size≤9223372036854775807) (hn:l.length≤1000000):
 SeqStopsK Fence.wide n Tryz.prog 135 #[.pointer (some ⟨Bh,0,none⟩)] (fun x:Span=> #[.agg x.cells]) (KeepsAt K) (fun ys=> ys=holesOf size l) (fun pre=> pre <+:holesOf size l) (l.length + 1) w:=fun y J Jx W hW hJ hJx hY h0=>
 holes1_in y n Bh K u size l J Jx W hY hJ ((hW.block Bh (hlt hl)).trans hl) (hS.below hW) (fun k hk=> hKn k (Nat.le_trans hW.size hk)) hr hs hn h0
end Kn
end Go.Proofs.YthgehdghihbiaaaGreatDoor
