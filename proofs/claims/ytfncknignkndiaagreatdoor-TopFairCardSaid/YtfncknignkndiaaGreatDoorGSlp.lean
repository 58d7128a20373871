/- Package sleep: Until, Drop, Add. Conditions: as told. -/
import Derived.Test.YtfncknignkndiaaGreatDoorGRow
import Derived.Test.YtfncknignkndiaaGreatDoorGRo
set_option linter.unusedVariables false
set_option maxRecDepth 100000
set_option maxHeartbeats 8000000
set_option linter.unusedSimpArgs false
namespace Go.Proofs.YtfncknignkndiaaGreatDoor
open Tryz
open Go.RowKit KR
namespace Kn
abbrev SlA (W:World) (v:Value) (l:List Alarm):Prop:=Sl 48 2 Alarm.cells W v l
abbrev OwnA (B:Nat) (W:World) (v:Value) (l:List Alarm):Prop:=Own 48 2 Alarm.cells B W v l
theorem qTs (n:Nat) (h:n<2 ^ 64):(2 ^ 64 - 1) ^^^ n=2 ^ 64 - (n + 1):=by
 apply Nat.eq_of_testBit_eq;intro i;rw [Nat.testBit_xor,Nat.testBit_two_pow_sub_one,Nat.testBit_two_pow_sub_succ h];by_cases hi:i<64
 · simp [hi]
 · have:n.testBit i=false:=Nat.testBit_lt_two_pow (Nat.lt_of_lt_of_le h (Nat.pow_le_pow_right (by decide) (by omega)))
   simp [hi,this]
theorem qSv (a:Int) (h0:0≤a) (h1:a≤18446744073709551615):bits .xor .u64 (if IntKind.u64.signed=true then -1 else IntKind.u64.max) a=18446744073709551615 - a:=by
 obtain ⟨n,rfl⟩:=Int.eq_ofNat_of_zero_le h0;have hx:=qTs n (by omega);have e1:(BitVec.ofInt 64 (n:Int)).toNat=n:=by rw [BitVec.toNat_ofInt];omega
 have e2:(BitVec.ofInt 64 (18446744073709551615:Int)).toNat=2 ^ 64 - 1:=by decide
 show IntKind.u64.wrap ((BitVec.ofInt 64 (18446744073709551615:Int) ^^^ BitVec.ofInt 64 (n:Int)).toNat:Int)=_
 rw [BitVec.toNat_xor,e1,e2,hx,IntKind.wrap_u64];omega
theorem qJg (now n:Int) (w:World) (h0:0≤now) (h1:now≤18446744073709551615) (h2:0≤n) (h3:n<4294967296):Calls prog 41 #[.int .u64 now,.int .u32 n] w (aN (.int .u64 (til now n)) w):=by
 go_in;have hx:=qSv now h0 h1;refine sg ?_;intros;go_ret;refine fA ?_ (Below.refl _ _);unfold til;rw [Int.min_def];split <;> split <;> omega
theorem drop1 (x:Alarm) (b:Nat) (pid:Int) (W:World) (h:W.cell? ⟨b,0,none⟩=some (.int .i64 pid)) (hb:b<W.heap.size):Calls prog 199 #[.agg x.cells,.pointer (some ⟨b,0,none⟩)] W (aN (.bool (x.pid==pid)) W):=by
 have h0:x.cells[1]? =some (.int .i64 x.pid):=rfl;generalize x.cells=xc at *;go_in;repeat' (first|go_values|go_skip|go_guarded|refine wg ?_|go_step|go_upon|go_quiet (fail))
 go_ret;exact cE rfl bel
theorem qSh:Enters prog 199:=enters_of func199 (by kernel_rfl) rfl
theorem qYv (v:Value) (l:List Alarm) (pid:Int) (w:World) (h:SlA w v l) (hn:l.length≤34359738368):
 Calls prog 140 #[v,.int .i64 pid] w (fun e w'=> ∃ v',e=.returned v'∧OwnA w.heap.size w' v' (lY l pid)∧Below w.heap.size w w'):=by
 have HC:=hU (nG v l (w.alloc (.cells #[.int .i64 pid] 3)) (h.below ((Below.refl _ _).alloc (Nat.le_refl _) _)) (by omega));obtain ⟨a,c,rfl,_,_⟩:=h.shape;clear h;go_in;refine sg ?_;intros;refine HC.out.mono ?_;rintro e w1 ⟨v1,rfl,hown,hb1⟩;have hz1:=hb1.size;simp at hz1
 have HD:=hU (qOs v1 l (fun p=> p.pid==pid) 199 (.pointer (some ⟨w.heap.size,0,none⟩)) (w.alloc (.cells #[.int .i64 pid] 3)).heap.size w1 hown (by simpa using hz1) qSh
  (fun x W hb=> drop1 x w.heap.size pid W ((hb.cell (p:=⟨w.heap.size,0,none⟩) (by simp)).trans ((hb1.cell (p:=⟨w.heap.size,0,none⟩) (by simp)).trans (by go_simp))) (Nat.lt_of_lt_of_le hz1 hb.size)))
 have HB1:=hU (Below.to ((Below.refl w.heap.size w).alloc (Nat.le_refl _) _) hb1);obtain ⟨a1,c1,rfl,_,_⟩:=(hown.sl pR).shape;clear hown hb1;dsimp only;repeat' (first|(go_at_call 198;refine HD.out.mono ?_;rintro e w2 ⟨v2,rfl,hown2,hb2⟩;dsimp only)|go_values|go_skip|go_guarded|refine wg ?_|go_step|go_upon)
 go_ret;exact ⟨_,rfl,Own.mono hown2 (by simp),HB1.out.trans (hb2.mono (by simp))⟩
theorem qUs (x a:Alarm) (w:World):Calls prog 188 #[.agg x.cells,.agg a.cells] w (aN (.bool (behind x a)) w):=by
 unfold Alarm.cells behind;go_in;repeat' (first|go_values|go_skip|go_guarded|refine wg ?_|go_step|go_upon|go_quiet (fail))
 all_goals
  go_ret;exact cE (by first|rfl|grind) bel
theorem add1 (x a:Alarm) (b:Nat) (W:World) (h:W.heap[b]? =some (.cells a.cells 48 (0,0))):Calls prog 187 #[.agg x.cells,.pointer (some ⟨b,0,none⟩)] W (aN (.bool (behind x a)) W):=by
 have HB:=hU (fun W=> qUs x a W);have HXS:Hid (x.cells.size=2):=hU rfl;have HAS:Hid (a.cells.size=2):=hU rfl;have HH:=hU h;have hbl:=hlt h;clear h;generalize x.cells=xc at *;generalize a.cells=ac at *;go_in
 repeat' (first
  |(refine aE rfl rfl rfl (aD jH (fZ W _) HXS.out) ?_)
  |(refine aE rfl rfl rfl (aD jH (hold HH.out) HAS.out) ?_)
  |(go_at_call 188;refine (HB.out _).mono ?_;rintro e w1 ⟨rfl,hb1⟩;dsimp only)
  |go_values|go_skip|go_guarded|refine wg ?_|go_step|go_upon)
 go_ret;exact ⟨rfl,Below.to ((Below.refl _ _).alloc (Nat.le_refl _) _) hb1⟩
theorem qWr:Enters prog 187:=enters_of func187 (by kernel_rfl) rfl
theorem qMn {l:List Alarm} {a:Alarm} {k:Nat} (h:idx l (fun x=> behind x a)=(k:Int)):pM l a=ins l k a:=by
 unfold pM;unfold idx at h;cases hf:l.findIdx? (fun x=> behind x a) with
 |none=> rw [hf] at h;simp at h
 |some k'=>
  rw [hf] at h;have h:(k':Int)=(k:Int):=h;rw [show k'=k by omega]
theorem qMm {l:List Alarm} {a:Alarm} (h:idx l (fun x=> behind x a)= -1):pM l a=ins l l.length a:=by
 unfold pM;unfold idx at h;cases hf:l.findIdx? (fun x=> behind x a) with
 |none=> simp [ins]
 |some k'=> rw [hf] at h;simp at h
theorem qCs {α:Type} (l:List α) (pr:α→Bool):(∃ k:Nat,idx l pr=(k:Int)∧k<l.length)∨idx l pr= -1:=by
 unfold idx;cases hf:l.findIdx? pr with
 |none=> exact .inr rfl
 |some k=>
  rw [List.findIdx?_eq_some_iff_getElem] at hf;exact .inl ⟨k,rfl,hf.1⟩
theorem SAdd (v:Value) (l:List Alarm) (a:Alarm) (w:World) (h:SlA w v l) (hn:l.length≤34359738368):
 Calls prog 136 #[v,.agg a.cells] w (fun e w'=> ∃ v',e=.returned v'∧OwnA w.heap.size w' v' (pM l a)∧Below w.heap.size w w'):=by
 have hsl1:=h.below ((Below.refl _ _).alloc (Nat.le_refl _) (.cells a.cells 48))
 have HI:=hU (qGc v l (fun x=> behind x a) 187 (.pointer (some ⟨w.heap.size,0,none⟩)) (w.alloc (.cells a.cells 48)) hsl1 qWr
  (fun x W hb=> add1 x a w.heap.size W ((hb.block w.heap.size (by simp)).trans (fZ w _))))
 have HSL:=hU hsl1;have HINS:=hU (fun (v:Value) (i B xb:Nat) (w:World) (h:OwnA B w v l) (hB:B≤w.heap.size) (hx:w.heap[xb]? =some (.cells a.cells 48 (0,0))) (hne:v.ownBlock ≠ some xb) (hi:i≤l.length)=> qPd v l i a B xb w h hB hx hne hi hn);have HXS:Hid (a.cells.size=2):=hU rfl;obtain ⟨ad,c,rfl,hlc,hcm⟩:=h.shape;clear h hsl1;generalize a.cells=ac at *;go_in;refine sg ?_;intros;refine HI.out.mono ?_;rintro e w2 ⟨rfl,hb2⟩;have hz2:=hb2.size;simp at hz2;have HP2:=hU ((hb2.block w.heap.size (by simp)).trans (fZ w (.cells ac 48)));have HB2:=hU (Below.to ((Below.refl w.heap.size w).alloc (Nat.le_refl _) _) hb2);have HSL2:=hU (HSL.out.below hb2);clear hb2 HI HSL;rcases qCs l (fun x=> behind x a) with ⟨k,hi,hk⟩|hi
 · have HE:=hU (qMn hi);have hki:k≤l.length:=Nat.le_of_lt hk;rw [hi];clear hi;dsimp only;refine sg ?_;intros;refine wp_region_noPanic ?_;refine RegTail.jD (st:=[5,6]) (S:=fun W=> W.heap[w.heap.size]? =some (.cells ac 48 (0,0))) (by kernel_rfl) ?_;have hS:(fun W:World=> W.heap[w.heap.size]? =some (.cells ac 48 (0,0))) w2.drew:=HP2.out;(refine RegTail.tl 0 ?_);(try simp only [RegT3.aF])
   (refine RegTail.tl 2 ?_);(try simp only [RegT3.aF])
   (refine RegTail.qDi (i:=3) (v:=.agg ac) rfl (by kernel_rfl) (by kernel_rfl) (by kernel_rfl) (by kernel_rfl) (fun _ _ _ h=> h) (Or.inl ⟨by rfl,?_⟩) (by assumption) ?_; · (intro W hSW;exact aR rfl rfl (aD jH hSW HXS.out)));(try simp only [Act.put,List.getElem_toArray,List.getElem_cons_zero,List.getElem_cons_succ,List.setIfInBounds_toArray,List.set_cons_zero,List.set_cons_succ])
   refine RegTail.oT (i:=1) (j:=4) (by kernel_rfl) rfl rfl (fun K hK=> ?_) (fun K hK=> ?_)
   · refine RegTail.want rfl ?_;go_simp;refine (nG _ l w2.drew HSL2.out (by omega)).mono ?_;rintro e w3 ⟨v1,rfl,hown,hb3⟩;have hz3:w2.heap.size≤w3.heap.size:=hb3.size;have hv1:v1.ownBlock ≠ some w3.heap.size:=fun e=> by have:=(World.ownsRow.lt hown _ e).2;omega
     have HP3:=hU ((hb3.block w.heap.size (show w.heap.size<w2.heap.size by omega)).trans HP2.out);have HO3:=hU (cY (Own.mono (B':=w.heap.size) hown (show w.heap.size≤w2.heap.size by omega)) ((Below.refl w3.heap.size w3).alloc (Nat.le_refl _) (.cells ac 48)));have HB3:=hU (Below.to (Below.to HB2.out (Below.drew (Below.refl _ w2))) hb3);clear hown hb3;dsimp only;refine hK.out _ _ (fun _=> HP3.out) ?_;clear hK K;(refine RegTail.ro 4 fun K hK=> ?_)
     refine RegTail.want rfl (eH (v:=.agg ac) _ rfl rfl underlying30 jH.size oV rfl (by decide) (by decide) HXS.out ?_);refine hK.out _ _ (fun _=> hold HP3.out) ?_;clear hK K;(try simp only [Act.put,List.getElem_toArray,List.getElem_cons_zero,List.getElem_cons_succ,List.setIfInBounds_toArray,List.set_cons_zero,List.set_cons_succ])
     (refine RegTail.ro 5 fun K hK=> ?_)
     refine RegTail.want rfl ?_;go_simp;refine (HINS.out v1 k w.heap.size w3.heap.size _ HO3.out (by simp;omega) (fZ w3 _) hv1 hki).mono ?_;rintro e w5 ⟨v5,rfl,hown5,hb5⟩;have HO5:=hU hown5;have HB5:=hU ((Below.to HB3.out ((Below.refl w3.heap.size w3).alloc (Nat.le_refl _) _)).trans hb5);clear hown5 hb5;dsimp only;refine hK.out _ _ (fun h=> absurd h (by decide)) ?_;clear hK K;(refine RegTail.ro 6 fun K hK=> ?_)
     refine RegTail.want rfl ?_;go_simp;refine hK.out _ _ (fun h=> absurd h (by decide)) ?_;clear hK K;refine RegTail.aZ (by kernel_rfl) (NoPanic.normal ?_) _;refine sg ?_;intros;go_ret;rw [HE.out];exact ⟨_,rfl,HO5.out,HB5.out⟩
   · refine RegTail.want rfl (eH (v:=.agg ac) _ rfl rfl underlying30 jH.size oV rfl (by decide) (by decide) HXS.out ?_);refine hK.out _ _ (fun _=> hold HP2.out) ?_;clear hK K;(try simp only [Act.put,List.getElem_toArray,List.getElem_cons_zero,List.getElem_cons_succ,List.setIfInBounds_toArray,List.set_cons_zero,List.set_cons_succ])
     (refine RegTail.ro 1 fun K hK=> ?_)
     refine RegTail.want rfl ?_;go_simp;refine (nG _ l (w2.alloc (.cells ac 48)).drew (HSL2.out.below (Below.drew ((Below.refl w2.heap.size w2).alloc (Nat.le_refl _) (.cells ac 48)))) (by omega)).mono ?_;rintro e w3 ⟨v1,rfl,hown,hb3⟩;have hz3:w2.heap.size + 1≤w3.heap.size:=by have:=hb3.size;simpa using this
     have hv1:v1.ownBlock ≠ some w2.heap.size:=fun e=> by
      have:=(World.ownsRow.lt hown _ e).1
      simp at this;omega
     have HX3:Hid (w3.heap[w2.heap.size]? =some (.cells ac 48 (0,0))):=hU ((hb3.block w2.heap.size (by simp)).trans (fZ w2 _));have HP3:Hid (w3.heap[w.heap.size]? =some (.cells ac 48 (0,0))):=hU ((hb3.block w.heap.size (by simp;omega)).trans (hold HP2.out));have HO3:=hU (Own.mono (B':=w.heap.size) hown (by simp;omega));have HB3:=hU (Below.to (Below.to HB2.out (Below.drew ((Below.refl w2.heap.size w2).alloc (Nat.le_refl _) (.cells ac 48)))) hb3);clear hown hb3;dsimp only;refine hK.out _ _ (fun _=> HP3.out) ?_;clear hK K;(refine RegTail.ro 5 fun K hK=> ?_)
     refine RegTail.want rfl ?_;go_simp;refine (HINS.out v1 k w.heap.size w2.heap.size _ HO3.out (by omega) HX3.out hv1 hki).mono ?_;rintro e w5 ⟨v5,rfl,hown5,hb5⟩;have HO5:=hU hown5;have HB5:=hU (HB3.out.trans hb5);clear hown5 hb5;dsimp only;refine hK.out _ _ (fun h=> absurd h (by decide)) ?_;clear hK K;(refine RegTail.ro 6 fun K hK=> ?_)
     refine RegTail.want rfl ?_;go_simp;refine hK.out _ _ (fun h=> absurd h (by decide)) ?_;clear hK K;refine RegTail.aZ (by kernel_rfl) (NoPanic.normal ?_) _;refine sg ?_;intros;go_ret;rw [HE.out];exact ⟨_,rfl,HO5.out,HB5.out⟩
 · have HE:=hU (qMm hi);have hki:l.length≤l.length:=Nat.le_refl _;rw [hi];clear hi;dsimp only;refine sg ?_;intros;refine wp_region_noPanic ?_;refine RegTail.jD (st:=[5,6]) (S:=fun W=> W.heap[w.heap.size]? =some (.cells ac 48 (0,0))) (by kernel_rfl) ?_;have hS:(fun W:World=> W.heap[w.heap.size]? =some (.cells ac 48 (0,0))) w2.drew:=HP2.out;(refine RegTail.tl 0 ?_);(try simp only [RegT3.aF])
   (refine RegTail.tl 2 ?_);(try simp only [RegT3.aF])
   (refine RegTail.qDi (i:=3) (v:=.agg ac) rfl (by kernel_rfl) (by kernel_rfl) (by kernel_rfl) (by kernel_rfl) (fun _ _ _ h=> h) (Or.inl ⟨by rfl,?_⟩) (by assumption) ?_; · (intro W hSW;exact aR rfl rfl (aD jH hSW HXS.out)));(try simp only [Act.put,List.getElem_toArray,List.getElem_cons_zero,List.getElem_cons_succ,List.setIfInBounds_toArray,List.set_cons_zero,List.set_cons_succ])
   refine RegTail.oT (i:=1) (j:=4) (by kernel_rfl) rfl rfl (fun K hK=> ?_) (fun K hK=> ?_)
   · refine RegTail.want rfl ?_;go_simp;refine (nG _ l w2.drew HSL2.out (by omega)).mono ?_;rintro e w3 ⟨v1,rfl,hown,hb3⟩;have hz3:w2.heap.size≤w3.heap.size:=hb3.size;have hv1:v1.ownBlock ≠ some w3.heap.size:=fun e=> by have:=(World.ownsRow.lt hown _ e).2;omega
     have HP3:=hU ((hb3.block w.heap.size (show w.heap.size<w2.heap.size by omega)).trans HP2.out);have HO3:=hU (cY (Own.mono (B':=w.heap.size) hown (show w.heap.size≤w2.heap.size by omega)) ((Below.refl w3.heap.size w3).alloc (Nat.le_refl _) (.cells ac 48)));have HB3:=hU (Below.to (Below.to HB2.out (Below.drew (Below.refl _ w2))) hb3);clear hown hb3;dsimp only;refine hK.out _ _ (fun _=> HP3.out) ?_;clear hK K;(refine RegTail.ro 4 fun K hK=> ?_)
     refine RegTail.want rfl (eH (v:=.agg ac) _ rfl rfl underlying30 jH.size oV rfl (by decide) (by decide) HXS.out ?_);refine hK.out _ _ (fun _=> hold HP3.out) ?_;clear hK K;(try simp only [Act.put,List.getElem_toArray,List.getElem_cons_zero,List.getElem_cons_succ,List.setIfInBounds_toArray,List.set_cons_zero,List.set_cons_succ])
     (refine RegTail.ro 5 fun K hK=> ?_)
     refine RegTail.want rfl ?_;go_simp;refine (HINS.out v1 l.length w.heap.size w3.heap.size _ HO3.out (by simp;omega) (fZ w3 _) hv1 hki).mono ?_;rintro e w5 ⟨v5,rfl,hown5,hb5⟩;have HO5:=hU hown5;have HB5:=hU ((Below.to HB3.out ((Below.refl w3.heap.size w3).alloc (Nat.le_refl _) _)).trans hb5);clear hown5 hb5;dsimp only;refine hK.out _ _ (fun h=> absurd h (by decide)) ?_;clear hK K;(refine RegTail.ro 6 fun K hK=> ?_)
     refine RegTail.want rfl ?_;go_simp;refine hK.out _ _ (fun h=> absurd h (by decide)) ?_;clear hK K;refine RegTail.aZ (by kernel_rfl) (NoPanic.normal ?_) _;refine sg ?_;intros;go_ret;rw [HE.out];exact ⟨_,rfl,HO5.out,HB5.out⟩
   · refine RegTail.want rfl (eH (v:=.agg ac) _ rfl rfl underlying30 jH.size oV rfl (by decide) (by decide) HXS.out ?_);refine hK.out _ _ (fun _=> hold HP2.out) ?_;clear hK K;(try simp only [Act.put,List.getElem_toArray,List.getElem_cons_zero,List.getElem_cons_succ,List.setIfInBounds_toArray,List.set_cons_zero,List.set_cons_succ])
     (refine RegTail.ro 1 fun K hK=> ?_)
     refine RegTail.want rfl ?_;go_simp;refine (nG _ l (w2.alloc (.cells ac 48)).drew (HSL2.out.below (Below.drew ((Below.refl w2.heap.size w2).alloc (Nat.le_refl _) (.cells ac 48)))) (by omega)).mono ?_;rintro e w3 ⟨v1,rfl,hown,hb3⟩;have hz3:w2.heap.size + 1≤w3.heap.size:=by have:=hb3.size;simpa using this
     have hv1:v1.ownBlock ≠ some w2.heap.size:=fun e=> by
      have:=(World.ownsRow.lt hown _ e).1
      simp at this;omega
     have HX3:Hid (w3.heap[w2.heap.size]? =some (.cells ac 48 (0,0))):=hU ((hb3.block w2.heap.size (by simp)).trans (fZ w2 _));have HP3:Hid (w3.heap[w.heap.size]? =some (.cells ac 48 (0,0))):=hU ((hb3.block w.heap.size (by simp;omega)).trans (hold HP2.out));have HO3:=hU (Own.mono (B':=w.heap.size) hown (by simp;omega));have HB3:=hU (Below.to (Below.to HB2.out (Below.drew ((Below.refl w2.heap.size w2).alloc (Nat.le_refl _) (.cells ac 48)))) hb3);clear hown hb3;dsimp only;refine hK.out _ _ (fun _=> HP3.out) ?_;clear hK K;(refine RegTail.ro 5 fun K hK=> ?_)
     refine RegTail.want rfl ?_;go_simp;refine (HINS.out v1 l.length w.heap.size w2.heap.size _ HO3.out (by omega) HX3.out hv1 hki).mono ?_;rintro e w5 ⟨v5,rfl,hown5,hb5⟩;have HO5:=hU hown5;have HB5:=hU (HB3.out.trans hb5);clear hown5 hb5;dsimp only;refine hK.out _ _ (fun h=> absurd h (by decide)) ?_;clear hK K;(refine RegTail.ro 6 fun K hK=> ?_)
     refine RegTail.want rfl ?_;go_simp;refine hK.out _ _ (fun h=> absurd h (by decide)) ?_;clear hK K;refine RegTail.aZ (by kernel_rfl) (NoPanic.normal ?_) _;refine sg ?_;intros;go_ret;rw [HE.out];exact ⟨_,rfl,HO5.out,HB5.out⟩
end Kn
namespace KR
variable {α:Type}
theorem Sl.drop {E:TypeId} {sz:Nat} {f:α→Array Value} {W:World} {a a':Option Addr} {n c:Nat} {l:List α} (h:Sl E sz f W (.slice a n c) l) (k:Nat) (hk:k≤n) (ha:∀ b off,a=some ⟨b,off,none⟩→a'=(if c=k then some ⟨b,off,none⟩ else some ⟨b,off + k * sz,none⟩)):Sl E sz f W (.slice a' (n - k) (c - k)) (l.drop k):=by
 obtain ⟨a0,c0,he,h1,h2,h⟩:=h;injection he with ha0 hn hc
 subst ha0 hn hc;refine ⟨_,_,by rw [List.length_drop],by rw [List.length_drop];omega,by omega,?_⟩;by_cases hkn:k=l.length
 · exact .inl (by rw [hkn,List.drop_length])
 · rcases h with rfl|⟨b,off,cur,rfl,hb,aC⟩
   · exact .inl (by simp)
   · refine .inr ⟨b,off + k * sz,cur,by rw [ha b off rfl,if_neg (by omega)],hb,fun i x hx j u hj=> ?_⟩;rw [List.getElem?_drop] at hx;have:=aC _ x hx j u hj
     rw [Nat.add_mul] at this;rwa [Nat.add_assoc off]
theorem Sl.empty {E:TypeId} {sz:Nat} {f:α→Array Value} {W:World} {a:Option Addr} {c:Nat} (h:c≤9223372036854775807):Sl E sz f W (.slice a 0 c) []:=⟨a,c,rfl,Nat.zero_le _,h,.inl rfl⟩
theorem Sl.take {E:TypeId} {sz:Nat} {f:α→Array Value} {W:World} {a:Option Addr} {n c:Nat} {l:List α} (h:Sl E sz f W (.slice a n c) l) (k:Nat) (hk:k≤n):Sl E sz f W (.slice a k c) (l.take k):=by
 obtain ⟨a0,c0,he,h1,h2,h⟩:=h;injection he with ha0 hn hc
 subst ha0 hn hc;refine ⟨_,_,by rw [List.length_take,Nat.min_eq_left hk],by rw [List.length_take];omega,by omega,?_⟩;rcases h with rfl|⟨b,off,cur,rfl,hb,aC⟩
 · exact .inl (by simp)
 · refine .inr ⟨b,off,cur,rfl,hb,fun i x hx j u hj=> ?_⟩;rw [List.getElem?_take] at hx;split at hx
   · exact aC _ x hx j u hj
   · cases hx
end KR
namespace Kn
abbrev SlI (W:World) (v:Value) (l:List Int):Prop:=Sl 3 1 dC W v l
abbrev pX (B:Nat) (W:World) (v:Value) (l:List Int):Prop:=Own 3 1 dC B W v l
def qUt (w:World) (l:List Alarm) (now:Int) (ov iv:Value) (W:World):Prop:=∃ k:Nat,k≤l.length∧iv=.int .i64 k∧pX w.heap.size W ov ((l.take k).map (·.pid))∧Below w.heap.size w W∧∀ j x,j<k→l[j]? =some x→x.at_≤now
theorem qJq {l:List Alarm} {now:Int} {k:Nat} (h:∀ j x,j<k→l[j]? =some x→x.at_≤now) (hk:∀ x,l[k]? =some x→¬ x.at_≤now):due l now=(l.take k).map (·.pid)∧rest l now=l.drop k:=by
 have h1:∀ (l:List Alarm) (k:Nat),(∀ j x,j<k→l[j]? =some x→x.at_≤now)→(∀ x,l[k]? =some x→¬ x.at_≤now)→l.takeWhile (fun x=> decide (x.at_≤now))=l.take k∧l.dropWhile (fun x=> decide (x.at_≤now))=l.drop k:=by
  intro l;induction l with
  |nil=> intro k _ _;simp
  |cons y l ih=>
   intro k h hk;cases k with
   |zero=>
    have:=hk y rfl
    simp [this]
   |succ k=>
    have h0:=h 0 y (by omega) rfl;obtain ⟨i1,i2⟩:=ih k (fun j x hj hx=> h (j + 1) x (by omega) (by simpa using hx)) (fun x hx=> hk x (by simpa using hx));simp [h0,i1,i2]
 obtain ⟨e1,e2⟩:=h1 l k h hk;exact ⟨by rw [due,e1],by rw [rest,e2]⟩
theorem qKy (v:Value) (l:List Int) (x:Int) (B xb:Nat) (w:World) (h:pX B w v l) (hB:B≤w.heap.size) (hx:w.heap[xb]? =some (.cells #[.int .i64 x] 3 (0,0))) (hn:l.length≤34359738368):
 ∃ g cap W',(Builtin.append_ #[27,27] 27 #[v,.slice (some ⟨xb,0,none⟩) 1 1]).run prog w=.ok (.slice (some ⟨g,0,none⟩) (l.length + 1) cap) W'∧pX B W' (.slice (some ⟨g,0,none⟩) (l.length + 1) cap) (l ++ [x])∧Below B w W':=by
 have hi:(prog.info? 3).map (fun i=> (i.zero.map (·.cells.size),i.size,i.bytes))=some (some 1,1,8):=by kernel_rfl
 obtain ⟨i,z,hi0,hz,hzs,hs,hby⟩:=iK hi
 obtain ⟨v',W',hrun,hown',hgrow,_⟩:=run_append_own (P:=prog) w B 27 27 3 i z 1 8 underlying27 hi0 hz hs hby hzs (by decide) v l.length (flat dC l) h ⟨xb,0,none⟩ 1 1 (dC x).toList rfl
  (by intro j u hj;rw [oL,Nat.zero_add,aC hx];simpa [dC] using hj) (gJ x) (by unfold maxLen;omega) (by omega) hB
 have hO:pX B W' v' (l ++ [x]):=by
  show W'.ownsRow _ _ _ _ _ _
  rw [eQ,List.length_append];simpa [flat] using hown'
 rcases hown'.2 with ⟨_,h0⟩|⟨g,cap,cur,rfl,_⟩
 · omega
 · exact ⟨g,cap,W',hrun,hO,⟨hgrow.os,hgrow.tape,hgrow.output,hgrow.size,fun k hk=> hgrow.block k (by omega) (fun e=> by
    have:=(World.ownsRow.lt h k e.symm).1
    omega)⟩⟩
theorem Due (v:Value) (l:List Alarm) (now:Int) (w:World) (h:SlA w v l) (hn:l.length≤34359738368):
 Calls prog 80 #[v,.int .u64 now] w (fun e w'=> ∃ v1 v2,e=.returned (.tuple #[v1,v2])∧pX w.heap.size w' v1 (due l now)∧SlA w' v2 (rest l now)∧Below w.heap.size w w'):=by
 have HSL:=hU h;obtain ⟨a,c,rfl,hlc,hcm⟩:=h.shape;obtain ⟨_,_,_,hel⟩:=h.elem;have HEL:=hU hel;clear h hel;go_in;refine sg ?_;intros;go_loopw [6,10] (fun ov iv wr=> qUt w l now ov iv wr) (fun _ iv _=> l.length - (intOf iv).toNat)
 case atStart=> exact ⟨0,Nat.zero_le _,rfl,Own.nil _ _ _ _ _,Below.refl _ _,fun j x hj=> absurd hj (Nat.not_lt_zero _)⟩
 case round=>
  obtain ⟨k,hk,rfl,hown,hb,hall⟩:=hrel;have HO:=hU hown;have HB:=hU hb;have HALL:=hU hall;have hlen:((l.take k).map (·.pid)).length=k:=by rw [List.length_map,List.length_take,Nat.min_eq_left hk]
  have hzb:=hb.size;by_cases hlt:k<l.length
  · obtain ⟨x,hx⟩:∃ x,l[k]? =some x:=⟨_,List.getElem?_eq_getElem hlt⟩
    obtain ⟨b,off,rfl,hbl,aC⟩:=HEL.out k x hx;have c0:=aC wr HB.out 0 (.int .u64 x.at_) rfl;have c1:=aC wr HB.out 1 (.int .i64 x.pid) rfl;rw [Nat.add_zero] at c0;by_cases hle:x.at_≤now
    · have hgt:¬ now<x.at_:=by omega
      obtain ⟨g,cap,W',hrun,hown',hb'⟩:=qKy _ _ x.pid w.heap.size wr.heap.size _ (cY HO.out ((Below.refl wr.heap.size wr).alloc (Nat.le_refl _) (.cells #[.int .i64 x.pid] 3))) (by simp;omega) (fZ wr _) (by omega);rw [hlen] at hrun hown';have HRUN:=hU hrun;have HO':=hU hown';have HB':=hU ((HB.out.alloc (by omega) (.cells #[.int .i64 x.pid] 3)).trans hb');have HTK:=hU (cD hx).1;have HX:=hU hx;clear hrun hown' hb' aC hown hb hall hx;repeat' (first|(at_builtin;refine cV _ rfl _ _ _ _ rfl _ _ rfl rfl _ _ HRUN.out ?_)|go_values|go_skip|go_guarded|refine wg ?_|go_step|go_upon)
      refine ⟨⟨k + 1,by omega,by go_num,?_,HB'.out,fun j y hj hy=> ?_⟩,by simp [intOf];omega⟩
      · rw [HTK.out,List.map_append];exact HO'.out
      · rcases Nat.lt_succ_iff_lt_or_eq.1 hj with h|rfl
        · exact HALL.out j y h hy
        · rw [HX.out] at hy;injection hy with hy
          subst hy;exact hle
    · have hgt:now<x.at_:=by omega
      obtain ⟨e1,e2⟩:=qJq HALL.out (fun y hy=> by rw [hx] at hy;injection hy with hy;subst hy;exact hle);obtain ⟨a1,c1',rfl,_,_⟩:=(hown.sl gS).shape;clear aC hown hb hall;refine sg ?_;intros;refine wp_region_noPanic ?_;refine RegTail.jD (st:=[]) (S:=fun _=> True) (by kernel_rfl) ?_;(refine RegTail.tl 0 ?_);(try simp only [RegT3.aF])
      (refine RegTail.tl 1 ?_);(try simp only [RegT3.aF])
      (refine RegTail.tl 2 ?_);(try simp only [RegT3.aF])
      (refine RegTail.tl 3 ?_);(try simp only [RegT3.aF])
      (refine RegTail.tl 4 ?_);(try simp only [RegT3.aF])
      (refine RegTail.tl 5 ?_);(try simp only [RegT3.aF])
      (refine RegTail.tl 6 ?_);(try simp only [RegT3.aF])
      refine RegTail.aZ (by kernel_rfl) (NoPanic.normal ?_) _;refine sg ?_;intros;go_ret2
      have ho:=HO.out;rw [hlen] at ho;refine ⟨_,_,rfl,by rw [e1];exact ho,?_,Below.drew HB.out⟩;rw [e2];exact Sl.below (Sl.drop HSL.out k hk (fun b' off' hb=> by injection hb with hb;injection hb with hb1 hb2 _;subst hb1 hb2;rfl)) (Below.drew HB.out)
  · obtain rfl:k=l.length:=by omega
    obtain ⟨e1,e2⟩:=qJq HALL.out (fun y hy=> by simp at hy);obtain ⟨a1,c1',rfl,_,_⟩:=(hown.sl gS).shape;clear hown hb hall;refine sg ?_;intros;refine wp_region_noPanic ?_;refine RegTail.jD (st:=[]) (S:=fun _=> True) (by kernel_rfl) ?_;(refine RegTail.tl 0 ?_);(try simp only [RegT3.aF])
    (refine RegTail.tl 1 ?_);(try simp only [RegT3.aF])
    (refine RegTail.tl 2 ?_);(try simp only [RegT3.aF])
    (refine RegTail.tl 3 ?_);(try simp only [RegT3.aF])
    (refine RegTail.tl 4 ?_);(try simp only [RegT3.aF])
    (refine RegTail.tl 5 ?_);(try simp only [RegT3.aF])
    (refine RegTail.tl 6 ?_);(try simp only [RegT3.aF])
    refine RegTail.aZ (by kernel_rfl) (NoPanic.normal ?_) _;refine sg ?_;intros;go_ret2
    have ho:=HO.out;rw [hlen] at ho;refine ⟨_,_,rfl,by rw [e1];exact ho,?_,Below.drew HB.out⟩;rw [e2,List.drop_length];exact Sl.empty (by omega)
