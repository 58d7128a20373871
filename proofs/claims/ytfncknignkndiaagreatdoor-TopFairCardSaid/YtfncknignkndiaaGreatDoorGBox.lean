/- port.Take: the first message is taken; the box that is left lies in no other block. Conditions: as told. -/
import Derived.Test.YtfncknignkndiaaGreatDoorGWork
set_option linter.unusedVariables false
set_option maxRecDepth 100000
set_option maxHeartbeats 8000000
set_option linter.unusedSimpArgs false
namespace Go.Proofs.YtfncknignkndiaaGreatDoor
open Tryz
open Go.RowKit KR
namespace Kn
def qHf (ch:cS) (x:fY) (w:World) (e:Ending) (w':World):Prop:=
 ∃ y:fY,e=.returned (.tuple #[.agg (aX y),.agg (peek x.b).cells,.int .i64 (if x.b.l.isEmpty then 7 else 0)])∧y.b=qE ch x.b∧lG w' y∧(∀ g,gL (.slice x.a x.b.l.length x.c) x.b.l.length g→gL (.slice y.a y.b.l.length y.c) y.b.l.length g)∧Below w.heap.size w w'
theorem qSw {b off n m g:Nat} {c c':Nat} {l:List Msg} {x:Msg} (h:gL (.slice (some ⟨b,off,none⟩) m c) (x::l).length g):gL (.slice (if n=1 then some ⟨b,off,none⟩ else some ⟨b,off + 1 * 2,none⟩) l.length c') l.length g:=by
 rcases h with h|h
 · simp at h
 · refine .inr fun aa m' c'' he=> ?_;have hb:b ≠ g:=h _ _ _ rfl;split at he <;> (injection he with he _ _;injection he with he;subst he;exact hb)
theorem qVi (ch:cS) (x:fY) (w:World) (h:lG w x):Calls prog 221 #[.agg ch.cells,.agg (aX x)] w (qHf ch x w):=by
 have HP:=hU (fun W (hb:Below w.heap.size w W)=> qYr ch x W (h.below hb));have HX:=hU h;obtain ⟨a,c,l,lost⟩:=x;unfold lG at h;unfold aX at HP ⊢;dsimp only at h HP HX ⊢;clear h;have HB0:Hid (Below w.heap.size w ((((w.alloc (.cells ch.cells 102)).alloc (.cells #[.slice a l.length c,.int .i64 lost] 145)).alloc (.cells #[.slice none 0 0,.int .i64 0] 145)).alloc (.cells #[.int .u64 0,.string ByteArray.empty] 196))):=hU bel;generalize hnn:l.length=n at *;go_in
 repeat' (first
  |(refine aE rfl rfl rfl (aD tR (hold (hold (hold (fZ w _)))) rfl) ?_)
  |go_values|go_skip|go_guarded|refine wg ?_|go_step|go_upon)
 refine (HP.out _ HB0.out).mono ?_;rintro e w1 ⟨rfl,hb1⟩;have hz1:=hb1.size;simp only [World.size_alloc] at hz1;obtain ⟨q0,q1,q2,q3⟩:=uB w w.heap.size (.cells ch.cells 102) (.cells #[.slice a n c,.int .i64 lost] 145) (.cells #[.slice none 0 0,.int .i64 0] 145) (.cells #[.int .u64 0,.string ByteArray.empty] 196) rfl;have HC1:=hU ((hb1.block w.heap.size (by simp only [World.size_alloc];omega)).trans q0);have HX1:=hU ((hb1.block (w.heap.size + 1) (by simp only [World.size_alloc];omega)).trans q1);have HR1:=hU ((hb1.block (w.heap.size + 1 + 1) (by simp only [World.size_alloc];omega)).trans q2);have HM1:=hU ((hb1.block (w.heap.size + 1 + 1 + 1) (by simp only [World.size_alloc];omega)).trans q3);have HB1:=hU (Below.to HB0.out hb1);clear q0 q1 q2 q3 hb1 HP;obtain ⟨mc,hmc⟩:∃ mc,(peek ⟨l,lost⟩).cells=mc:=⟨_,rfl⟩
 have hms:Hid (mc.size=2):=hU (by rw [← hmc];rfl);have hmo:Hid (∀ u ∈ mc.toList,u.oneCell'=true):=hU (by rw [← hmc];exact lR _);have HMC:=hU hmc;rw [hmc];clear hmc;have HCX:Hid (((w1.alloc (.cells #[.int .u64 0,.string ByteArray.empty] 196))).heap[w1.heap.size]? =some (.cells #[.int .u64 0,.string ByteArray.empty] 196)):=hU (fZ w1 _);dsimp only;obtain ⟨kind,hkind⟩:∃ kind,ch.kind=kind:=⟨_,rfl⟩
 have hk0:ch.cells[0]? =some (.int .i64 kind):=by rw [← hkind];rfl
 rcases l with _|⟨⟨mt,mb⟩,r⟩
 · simp only [List.length_nil] at hnn;subst hnn;obtain ⟨mt,hmt⟩:∃ mt:Int,mt=0:=⟨_,rfl⟩
   obtain ⟨mb,hmb⟩:∃ mb:ByteArray,mb=ByteArray.empty:=⟨_,rfl⟩
   obtain rfl:mc=#[.int .u64 mt,.string mb]:=by rw [← HMC.out,hmt,hmb];rfl
   clear hmt hmb;have hem:List.isEmpty ([]:List Msg)=true:=rfl;simp only [hem]
   repeat' (first
    |(refine aK (v:=.agg #[.int .u64 mt,.string mb]) (off:=0) (new:=#[.int .u64 mt,.string mb]) rfl rfl rfl rfl lI.size HCX.out rfl (by simp) (lR ⟨mt,mb⟩) rfl ?_;intro W2 hp2
      have HC2:=hU ((hp2.oth w.heap.size (by omega)).trans (hold HC1.out));have HX2:=hU ((hp2.oth (w.heap.size + 1) (by omega)).trans (hold HX1.out));have HR2:=hU ((hp2.oth (w.heap.size + 1 + 1) (by omega)).trans (hold HR1.out));have HM2:=hU ((hp2.oth (w.heap.size + 1 + 1 + 1) (by omega)).trans (hold HM1.out));have HT2:=hU hp2.at_;have HB2:=hU (Below.put (Below.to HB1.out ((Below.refl w1.heap.size w1).alloc (Nat.le_refl _) _)) hp2 (by omega));have k2:=(aC HC2.out 0).trans hk0;have kx:W2.cell? ⟨w.heap.size + 1,0,none⟩=some (.slice a 0 c):=aC HX2.out 0;clear hp2)
    |go_values|go_skip|go_guarded|refine wg ?_|go_step|go_upon)
   refine wp_region_noPanic ?_;refine RegTail.jD (st:=[3,4]) (S:=fun W=> (W.cell? ⟨w.heap.size + 1,0,none⟩=some (.slice a 0 c)∧W.cell? ⟨w.heap.size + 1,1,none⟩=some (.int .i64 lost))∧(W.cell? ⟨w1.heap.size,0,none⟩=some (.int .u64 mt)∧W.cell? ⟨w1.heap.size,1,none⟩=some (.string mb))) (by kernel_rfl) ?_;have hS:(fun W:World=> (W.cell? ⟨w.heap.size + 1,0,none⟩=some (.slice a 0 c)∧W.cell? ⟨w.heap.size + 1,1,none⟩=some (.int .i64 lost))∧(W.cell? ⟨w1.heap.size,0,none⟩=some (.int .u64 mt)∧W.cell? ⟨w1.heap.size,1,none⟩=some (.string mb))) W2.drew:=⟨⟨aC HX2.out 0,aC HX2.out 1⟩,aC HT2.out 0,aC HT2.out 1⟩
   (refine RegTail.tl 0 ?_);(try simp only [RegT3.aF])
   (refine RegTail.tl 1 ?_);(try simp only [RegT3.aF])
   (refine RegTail.ro 2 fun K hK=> ?_)
   refine RegTail.want rfl ?_;refine cL (v:=.agg #[(.slice a 0 c),.int .i64 lost]) (off:=0) (new:=#[(.slice a 0 c),.int .i64 lost]) rfl rfl rfl lB.size HR2.out rfl (by simp) (by intro u hu;simp [Value.cells] at hu;rcases hu with rfl|rfl <;> rfl) rfl ?_;intro W5 hp5;have HX5:=hU ((hp5.oth (w.heap.size + 1) (by omega)).trans HX2.out);have HM5:=hU ((hp5.oth (w.heap.size + 1 + 1 + 1) (by omega)).trans HM2.out);have HT5:=hU ((hp5.oth w1.heap.size (by omega)).trans HT2.out);have HR5:=hU hp5.at_;have HB5:=hU (Below.put (Below.drew HB2.out) hp5 (by omega));have HK5:=hU hp5;clear hp5;refine hK.out _ _ (fun _=> ⟨⟨aC HX5.out 0,aC HX5.out 1⟩,aC HT5.out 0,aC HT5.out 1⟩) ?_;clear hK K hS;(refine RegTail.ro 3 fun K hK=> ?_)
   refine RegTail.want rfl ?_;refine cL (v:=.agg #[.int .u64 mt,.string mb]) (off:=0) (new:=#[.int .u64 mt,.string mb]) rfl rfl rfl lI.size HM5.out rfl (by simp) (lR ⟨mt,mb⟩) rfl ?_;intro W6 hp6;have HR6:=hU ((hp6.oth (w.heap.size + 1 + 1) (by omega)).trans HR5.out);have HM6:=hU hp6.at_;have HB6:=hU (Below.put HB5.out hp6 (by omega));have HK6:=hU hp6;clear hp6;refine hK.out _ _ (fun h=> absurd h (by decide)) ?_;clear hK K;(refine RegTail.ro 4 fun K hK=> ?_)
   go_simp;refine hK.out _ _ (fun h=> absurd h (by decide)) ?_;clear hK K;refine RegTail.aZ (by kernel_rfl) (NoPanic.normal ?_) _;refine sg ?_;intros;(try simp only [Exit.inBlock,Exit.then]);refine bodyPost_ret (oH results221 lB lI rfl rfl HR6.out rfl HM6.out rfl) rfl ?_
   exact ⟨⟨a,c,⟨[],lost⟩⟩,by rw [show (peek ⟨[],lost⟩).cells=_ from HMC.out];rfl,by rw [qE];split <;> rfl,Sl.empty HX.out.elem.2.2.1,fun _ _=> .inl rfl,HB6.out⟩
 · obtain rfl:mc=#[.int .u64 mt,.string mb]:=by rw [← HMC.out];rfl
   have hem:List.isEmpty (⟨mt,mb⟩::r:List Msg)=false:=rfl;simp only [hem];have hrl:Hid (r.length=n - 1):=hU (by rw [← hnn];simp);have HNN:=hU hnn;have hn1:1≤n:=by rw [← hnn];simp
   have hn1I:(1:Int)≤(n:Int):=by omega
   have HS:Hid (Sl 196 2 Msg.cells w (.slice a n c) (⟨mt,mb⟩::r)):=hU (by have h:=HX.out;unfold lG at h;dsimp only at h;rwa [hnn] at h);obtain ⟨hnl,hnc,hcm,hel⟩:=HS.out.elem;obtain ⟨b,off,rfl,hbl,_⟩:=hel 0 _ rfl;clear hel hnn hem hnl;by_cases hkd:kind=1
   · subst hkd;have hkb:((1:Int) !=1)=false:=rfl
     repeat' (first
      |(refine aK (v:=.agg #[.int .u64 mt,.string mb]) (off:=0) (new:=#[.int .u64 mt,.string mb]) rfl rfl rfl rfl lI.size HCX.out rfl (by simp) (lR ⟨mt,mb⟩) rfl ?_;intro W2 hp2
        have HC2:=hU ((hp2.oth w.heap.size (by omega)).trans (hold HC1.out));have HX2:=hU ((hp2.oth (w.heap.size + 1) (by omega)).trans (hold HX1.out));have HR2:=hU ((hp2.oth (w.heap.size + 1 + 1) (by omega)).trans (hold HR1.out));have HM2:=hU ((hp2.oth (w.heap.size + 1 + 1 + 1) (by omega)).trans (hold HM1.out));have HT2:=hU hp2.at_;have HB2:=hU (Below.put (Below.to HB1.out ((Below.refl w1.heap.size w1).alloc (Nat.le_refl _) _)) hp2 (by omega));have k2:=(aC HC2.out 0).trans hk0;have kx:W2.cell? ⟨w.heap.size + 1,0,none⟩=some (.slice (some ⟨b,off,none⟩) n c):=aC HX2.out 0;clear hp2)
      |go_values|go_skip|go_guarded|refine wg ?_|go_step|go_upon)
     refine wp_region_noPanic ?_;refine RegTail.jD (st:=[3,4]) (S:=fun W=> (W.cell? ⟨w.heap.size + 1,0,none⟩=some (.slice (some ⟨b,off,none⟩) n c)∧W.cell? ⟨w.heap.size + 1,1,none⟩=some (.int .i64 lost))∧(W.cell? ⟨w1.heap.size,0,none⟩=some (.int .u64 mt)∧W.cell? ⟨w1.heap.size,1,none⟩=some (.string mb))) (by kernel_rfl) ?_;have hS:(fun W:World=> (W.cell? ⟨w.heap.size + 1,0,none⟩=some (.slice (some ⟨b,off,none⟩) n c)∧W.cell? ⟨w.heap.size + 1,1,none⟩=some (.int .i64 lost))∧(W.cell? ⟨w1.heap.size,0,none⟩=some (.int .u64 mt)∧W.cell? ⟨w1.heap.size,1,none⟩=some (.string mb))) W2.drew:=⟨⟨aC HX2.out 0,aC HX2.out 1⟩,aC HT2.out 0,aC HT2.out 1⟩
     (refine RegTail.tl 0 ?_);(try simp only [RegT3.aF])
     (refine RegTail.tl 1 ?_);(try simp only [RegT3.aF])
     (refine RegTail.ro 2 fun K hK=> ?_)
     refine RegTail.want rfl ?_;refine cL (v:=.agg #[(.slice (some ⟨b,off,none⟩) n c),.int .i64 lost]) (off:=0) (new:=#[(.slice (some ⟨b,off,none⟩) n c),.int .i64 lost]) rfl rfl rfl lB.size HR2.out rfl (by simp) (by intro u hu;simp [Value.cells] at hu;rcases hu with rfl|rfl <;> rfl) rfl ?_;intro W5 hp5;have HX5:=hU ((hp5.oth (w.heap.size + 1) (by omega)).trans HX2.out);have HM5:=hU ((hp5.oth (w.heap.size + 1 + 1 + 1) (by omega)).trans HM2.out);have HT5:=hU ((hp5.oth w1.heap.size (by omega)).trans HT2.out);have HR5:=hU hp5.at_;have HB5:=hU (Below.put (Below.drew HB2.out) hp5 (by omega));have HK5:=hU hp5;clear hp5;refine hK.out _ _ (fun _=> ⟨⟨aC HX5.out 0,aC HX5.out 1⟩,aC HT5.out 0,aC HT5.out 1⟩) ?_;clear hK K hS;(refine RegTail.ro 3 fun K hK=> ?_)
     refine RegTail.want rfl ?_;refine cL (v:=.agg #[.int .u64 mt,.string mb]) (off:=0) (new:=#[.int .u64 mt,.string mb]) rfl rfl rfl lI.size HM5.out rfl (by simp) (lR ⟨mt,mb⟩) rfl ?_;intro W6 hp6;have HR6:=hU ((hp6.oth (w.heap.size + 1 + 1) (by omega)).trans HR5.out);have HM6:=hU hp6.at_;have HB6:=hU (Below.put HB5.out hp6 (by omega));have HK6:=hU hp6;clear hp6;refine hK.out _ _ (fun h=> absurd h (by decide)) ?_;clear hK K;(refine RegTail.ro 4 fun K hK=> ?_)
     go_simp;refine hK.out _ _ (fun h=> absurd h (by decide)) ?_;clear hK K;refine RegTail.aZ (by kernel_rfl) (NoPanic.normal ?_) _;refine sg ?_;intros;(try simp only [Exit.inBlock,Exit.then]);refine bodyPost_ret (oH results221 lB lI rfl rfl HR6.out rfl HM6.out rfl) rfl ?_
     exact ⟨⟨some ⟨b,off,none⟩,c,⟨⟨mt,mb⟩::r,lost⟩⟩,by rw [show (peek ⟨⟨mt,mb⟩::r,lost⟩).cells=_ from HMC.out];unfold aX;dsimp only;rw [HNN.out];rfl,by rw [qE,if_pos hkind],HX.out.below HB6.out,fun _ h=> h,HB6.out⟩
   · have hkb:(kind !=1)=true:=by simp [hkd]
     repeat' (first
      |(refine aK (v:=.agg #[.int .u64 mt,.string mb]) (off:=0) (new:=#[.int .u64 mt,.string mb]) rfl rfl rfl rfl lI.size HCX.out rfl (by simp) (lR ⟨mt,mb⟩) rfl ?_;intro W2 hp2
        have HC2:=hU ((hp2.oth w.heap.size (by omega)).trans (hold HC1.out));have HX2:=hU ((hp2.oth (w.heap.size + 1) (by omega)).trans (hold HX1.out));have HR2:=hU ((hp2.oth (w.heap.size + 1 + 1) (by omega)).trans (hold HR1.out));have HM2:=hU ((hp2.oth (w.heap.size + 1 + 1 + 1) (by omega)).trans (hold HM1.out));have HT2:=hU hp2.at_;have HB2:=hU (Below.put (Below.to HB1.out ((Below.refl w1.heap.size w1).alloc (Nat.le_refl _) _)) hp2 (by omega));have k2:=(aC HC2.out 0).trans hk0;have kx:W2.cell? ⟨w.heap.size + 1,0,none⟩=some (.slice (some ⟨b,off,none⟩) n c):=aC HX2.out 0;clear hp2)
      |(refine aK (v:=(.slice (if n=1 then some ⟨b,off,none⟩ else some ⟨b,off + 1 * 2,none⟩) (n - 1) (n - 1))) (off:=0) (new:=#[(.slice (if n=1 then some ⟨b,off,none⟩ else some ⟨b,off + 1 * 2,none⟩) (n - 1) (n - 1)),.int .i64 lost]) rfl rfl rfl rfl qSy.size HX2.out rfl (by simp) (by intro u hu;simp [Value.cells] at hu;subst hu;rfl) rfl ?_;intro W3 hp3
        have HX3:=hU hp3.at_;have HR3:=hU ((hp3.oth (w.heap.size + 1 + 1) (by omega)).trans HR2.out);have HM3:=hU ((hp3.oth (w.heap.size + 1 + 1 + 1) (by omega)).trans HM2.out);have HT3:=hU ((hp3.oth w1.heap.size (by omega)).trans HT2.out);have HB3:=hU (Below.put HB2.out hp3 (by omega));clear hp3)
      |go_values|go_skip|go_guarded|refine wg ?_|go_step|go_upon)
     refine wp_region_noPanic ?_;refine RegTail.jD (st:=[3,4]) (S:=fun W=> (W.cell? ⟨w.heap.size + 1,0,none⟩=some (.slice (if n=1 then some ⟨b,off,none⟩ else some ⟨b,off + 1 * 2,none⟩) (n - 1) (n - 1))∧W.cell? ⟨w.heap.size + 1,1,none⟩=some (.int .i64 lost))∧(W.cell? ⟨w1.heap.size,0,none⟩=some (.int .u64 mt)∧W.cell? ⟨w1.heap.size,1,none⟩=some (.string mb))) (by kernel_rfl) ?_;have hS:(fun W:World=> (W.cell? ⟨w.heap.size + 1,0,none⟩=some (.slice (if n=1 then some ⟨b,off,none⟩ else some ⟨b,off + 1 * 2,none⟩) (n - 1) (n - 1))∧W.cell? ⟨w.heap.size + 1,1,none⟩=some (.int .i64 lost))∧(W.cell? ⟨w1.heap.size,0,none⟩=some (.int .u64 mt)∧W.cell? ⟨w1.heap.size,1,none⟩=some (.string mb))) W3.drew:=⟨⟨aC HX3.out 0,aC HX3.out 1⟩,aC HT3.out 0,aC HT3.out 1⟩
     (refine RegTail.tl 0 ?_);(try simp only [RegT3.aF])
     (refine RegTail.tl 1 ?_);(try simp only [RegT3.aF])
     (refine RegTail.ro 2 fun K hK=> ?_)
     refine RegTail.want rfl ?_;refine cL (v:=.agg #[(.slice (if n=1 then some ⟨b,off,none⟩ else some ⟨b,off + 1 * 2,none⟩) (n - 1) (n - 1)),.int .i64 lost]) (off:=0) (new:=#[(.slice (if n=1 then some ⟨b,off,none⟩ else some ⟨b,off + 1 * 2,none⟩) (n - 1) (n - 1)),.int .i64 lost]) rfl rfl rfl lB.size HR3.out rfl (by simp) (by intro u hu;simp [Value.cells] at hu;rcases hu with rfl|rfl <;> rfl) rfl ?_;intro W5 hp5;have HX5:=hU ((hp5.oth (w.heap.size + 1) (by omega)).trans HX3.out);have HM5:=hU ((hp5.oth (w.heap.size + 1 + 1 + 1) (by omega)).trans HM3.out);have HT5:=hU ((hp5.oth w1.heap.size (by omega)).trans HT3.out);have HR5:=hU hp5.at_;have HB5:=hU (Below.put (Below.drew HB3.out) hp5 (by omega));have HK5:=hU hp5;clear hp5;refine hK.out _ _ (fun _=> ⟨⟨aC HX5.out 0,aC HX5.out 1⟩,aC HT5.out 0,aC HT5.out 1⟩) ?_;clear hK K hS;(refine RegTail.ro 3 fun K hK=> ?_)
     refine RegTail.want rfl ?_;refine cL (v:=.agg #[.int .u64 mt,.string mb]) (off:=0) (new:=#[.int .u64 mt,.string mb]) rfl rfl rfl lI.size HM5.out rfl (by simp) (lR ⟨mt,mb⟩) rfl ?_;intro W6 hp6;have HR6:=hU ((hp6.oth (w.heap.size + 1 + 1) (by omega)).trans HR5.out);have HM6:=hU hp6.at_;have HB6:=hU (Below.put HB5.out hp6 (by omega));have HK6:=hU hp6;clear hp6;refine hK.out _ _ (fun h=> absurd h (by decide)) ?_;clear hK K;(refine RegTail.ro 4 fun K hK=> ?_)
     go_simp;refine hK.out _ _ (fun h=> absurd h (by decide)) ?_;clear hK K;refine RegTail.aZ (by kernel_rfl) (NoPanic.normal ?_) _;refine sg ?_;intros;(try simp only [Exit.inBlock,Exit.then]);refine bodyPost_ret (oH results221 lB lI rfl rfl HR6.out rfl HM6.out rfl) rfl ?_
     exact ⟨⟨if n=1 then some ⟨b,off,none⟩ else some ⟨b,off + 1 * 2,none⟩,n - 1,⟨r,lost⟩⟩,by rw [show (peek ⟨⟨mt,mb⟩::r,lost⟩).cells=_ from HMC.out];unfold aX;dsimp only;rw [hrl.out];rfl,(show (⟨r,lost⟩:Box)=qE ch ⟨⟨mt,mb⟩::r,lost⟩ by rw [qE,if_neg (show ¬ ch.kind=1 by rw [hkind];exact hkd)];rfl),by unfold lG;dsimp only;rw [hrl.out];exact (Sl.drop (HS.out.clip) 1 hn1 (fun b' off' hb=> by injection hb with hb;injection hb with h1 h2 _;subst h1 h2;rfl)).below HB6.out,fun g h=> qSw h,HB6.out⟩
section
variable {W W':World} {y:Lay} {bs:List fY} {k:aI} {g:Nat} {cs cs':Array Value}
theorem aH.qXf (h:aH W y bs k) (ho:∀ x ∈ bs,gL (.slice x.a x.b.l.length x.c) x.b.l.length g) (hh:W.heap[g]? =some (.cells cs 196 (0,0))) (hq:Put g cs' 196 W W'):aH W' y bs k:=
 ⟨h.p.put hh hq (by decide),h.t.put hh hq (by decide),h.s.put hh hq (by decide),h.pi.put hh hq (by decide),h.h.put hh hq (by decide),h.im.put hh hq (by decide),h.ou.put hh hq (by decide),h.ins_.put hh hq (by decide),h.bx.put hh hq (by decide),h.bse,
   fun x hx=> Sl.dY (h.ok x hx) (ho x hx) hq,h.tr.put hh hq (by decide),h.se.put hh hq (by decide)⟩
theorem aH.qPu (h:aH W y bs k) (ho:gL y.bx bs.length g) (hh:W.heap[g]? =some (.cells cs 145 (0,0))) (hq:Put g cs' 145 W W'):aH W' y bs k:=
 ⟨h.p.put hh hq (by decide),h.t.put hh hq (by decide),h.s.put hh hq (by decide),h.pi.put hh hq (by decide),h.h.put hh hq (by decide),h.im.put hh hq (by decide),h.ou.put hh hq (by decide),h.ins_.put hh hq (by decide),Sl.dY h.bx ho hq,h.bse,
   fun x hx=> Sl.put (h.ok x hx) hh hq (by decide),h.tr.put hh hq (by decide),h.se.put hh hq (by decide)⟩
theorem aH.qQd (h:aH W y bs k) {v:Value} (hv:SlBx W v bs):aH W {y with bx:=v} bs k:=⟨h.p,h.t,h.s,h.pi,h.h,h.im,h.ou,h.ins_,hv,h.bse,h.ok,h.tr,h.se⟩
theorem aH.putRow (h:aH W y bs k) {j:Nat} {z:fY} (hv:SlBx W' y.bx (bs.set j z)) (hz:lG W z) (hh:W.heap[g]? =some (.cells cs 145 (0,0))) (hq:Put g cs' 145 W W'):aH W' y (bs.set j z) {k with box:=k.box.set j z.b}:=
 ⟨h.p.put hh hq (by decide),h.t.put hh hq (by decide),h.s.put hh hq (by decide),h.pi.put hh hq (by decide),h.h.put hh hq (by decide),h.im.put hh hq (by decide),h.ou.put hh hq (by decide),h.ins_.put hh hq (by decide),hv,by rw [List.map_set,h.bse],
   fun x hx=> by
    rcases List.mem_or_eq_of_mem_set hx with hx|rfl
    · exact Sl.put (h.ok x hx) hh hq (by decide)
    · exact Sl.put hz hh hq (by decide),h.tr.put hh hq (by decide),h.se.put hh hq (by decide)⟩
theorem qAj {cap j:Nat} {l:List fY} {cur:Array Value} {x:fY} (h:W.heap[g]? =some (.cells cur 145 (0,0))) (hr:l.length≤cap∧cap≤maxLen∧cur.size=cap * 2∧cur.toList.take (l.length * 2)=flat aX l) (hj:j<l.length) (hp:Put g (aQ cur (j * 2) (aX x)) 145 W W'):
 SlBx W' (.slice (some ⟨g,0,none⟩) l.length cap) (l.set j x):=by
 have:=KR.Own.sl qV ((Row.set qV ⟨h,hr⟩ hj rfl hp).own qV (Nat.zero_le g))
 rwa [List.length_set] at this
theorem qEi (x:fY):∀ u ∈ (Value.agg (aX x)).cells.toList,u.oneCell'=true:=
 List.all_eq_true.1 (show ((Value.agg (aX x)).cells.toList.all (·.oneCell'))=true from rfl)
