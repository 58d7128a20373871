/- One element appended to a slice that is full: a new row, all else as it was. Conditions: the slice's length is its capacity; no longer than Go can hold. port.Peek: the first message that waits. Condition: the box lies there. port.Send: a message comes to a box. Conditions: the box lies there, it is no longer than Go can hold. port.Take: the first message is taken. Condition: the box lies there. -/
import Derived.Test.YtalapfkfdhpomaaGreatDoorG1
import Derived.ArgAppend
import Derived.Test.YtalapfkfdhpomaaGreatDoorGTurn
import Derived.WalkKit
import Derived.WalkSpells
import Derived.WalkLawsBesides
import Derived.Lib.Hide
import Derived.BigQuiet
import Derived.Deep.QuietTactic
set_option linter.unusedVariables false
set_option linter.unusedSimpArgs false
namespace Go.Proofs.YtalapfkfdhpomaaGreatDoor
open Go.RowKit
namespace KR
variable {α:Type}
theorem append_full {P:Program} {t ty E:TypeId} {sz bytes:Nat} {f:α→Array Value} (hf:∀ x,(f x).size=sz) (hsz:0<sz) (hu:P.underlying t=some (.slice E))
 (hi:(P.info? E).map (fun i=> (i.zero.map (·.cells.size),i.size,i.bytes))=some (some sz,sz,bytes)) (hones:∀ x,∀ u ∈ (f x).toList,u.oneCell'=true) {w:World} {a:Option Addr} {n c:Nat} {l:List α} (h:Sl E sz f w (.slice a n n) l)
 {x:α} {xb:Nat} {fr:Nat × Nat} {T:TypeId} (hx:w.heap[xb]? =some (.cells (f x) T fr)) (hn:n + 1≤maxLen) (hb:(n + 1) * bytes≤140737488355328):
 ∃ v' W',(Builtin.append_ #[t,t] ty #[.slice a n n,.slice (some ⟨xb,0,none⟩) 1 c]).run P w=.ok v' W'∧Own E sz f w.heap.size W' v' (l ++ [x])∧Below w.heap.size w W':=by
 cases hq:P.info? E with
 |none=> rw [hq] at hi;cases hi
 |some i=>
  rw [hq] at hi
  simp only [Option.map_some,Option.some.injEq,Prod.mk.injEq] at hi
  obtain ⟨h1,h2,h3⟩:=hi
  cases hz:i.zero with
  |none=> rw [hz] at h1;cases h1
  |some z=>
   rw [hz] at h1
   have hzs:z.cells.size=sz:=by simpa using h1
   have hnews:∀ j u,(f x).toList[j]? =some u→w.cell? ((⟨xb,0,none⟩:Addr).add j)=some u:=fun j u hj=> by
    rw [add0,Nat.zero_add,hcell hx]
    simpa using hj
   have hnl:(f x).toList.length=1 * sz:=by rw [Array.length_toList,hf,Nat.one_mul]
   have hnn:n=l.length:=h.elem.1
   have hgb:∀ W' v',w.grownBy W' v'→(∀ k,k<w.heap.size→some k ≠ v')→Below w.heap.size w W':=fun W' v' hg hv=> ⟨hg.os,hg.tape,hg.output,hg.size,fun k hk=> hg.block k hk (hv k hk)⟩
   cases a with
   |none=>
    have hl0:l=[]:=by
     obtain ⟨_,_,he,_,_,h|⟨b,off,cur,ha,_⟩⟩:=h
     · exact h
     · injection he with he
       subst he
       cases ha
    subst hl0
    have hn0:n=0:=hnn
    subst hn0
    obtain ⟨v',W',hr,ho,hg,_⟩:=run_append_own (P:=P) w w.heap.size t ty E i z sz bytes hu hq hz h2 h3 hzs hsz (.slice none 0 0) 0 [] (World.ownsRow_nil w _ E sz) ⟨xb,0,none⟩ 1 c (f x).toList hnl hnews (hones x) (by omega) (by omega) (Nat.le_refl _)
    exact ⟨v',W',hr,by simpa [Own,flat] using ho,hgb W' _ hg (fun k hk e=> by cases e)⟩
   |some b=>
    have holds:∀ j u,(flat f l)[j]? =some u→w.cell? (b.add j)=some u:=by
     obtain ⟨_,_,he,_,_,h'|⟨b',off,cur,ha,_⟩⟩:=id h
     · subst h'
       intro j u hj
       simp [flat] at hj
     · injection he with he
       subst he
       injection ha with ha
       subst ha
       intro j u hj
       rw [add0]
       exact h.flat_cells hf j u hj
    obtain ⟨v',W',hr,ho,hg⟩:=run_append_arg_grows (P:=P) (w:=w) t ty E i z sz bytes hu hq hz h2 h3 hzs hsz b n n (flat f l) (by rw [flat_length hf,hnn]) holds ⟨xb,0,none⟩ 1 c (f x).toList hnl hnews (by omega) hn hb
    refine ⟨v',W',hr,?_,hgb W' _ hg (fun k hk e=> by cases e)⟩
    unfold Own
    rw [flat_append,List.length_append,← hnn]
    simpa [flat] using ho
end KR
end Go.Proofs.YtalapfkfdhpomaaGreatDoor
namespace Go.Proofs.YtalapfkfdhpomaaGreatDoor
open Go.RowKit KR
namespace Kn
/-- the messages of a box lie there -/
def BoxOk (W:World) (x:BoxV):Prop:=Sl 142 2 Msg.cells W (.slice x.a x.b.l.length x.c) x.b.l
/-- the first message -/
def peek (b:Box):Msg:=match b.l with|[]=> ⟨0,ByteArray.empty⟩|m::_=> m
set_option maxRecDepth 100000 in
set_option maxHeartbeats 1000000 in
theorem PPeek (ch:Chan) (x:BoxV) (w:World) (h:BoxOk w x):Calls Tryz.prog 187 #[.agg ch.cells,.agg (boxCells x)] w (Gives (.tuple #[.agg (peek x.b).cells,.bool (!x.b.l.isEmpty)]) w):=by
 obtain ⟨a,c,l,lost⟩:=x
 unfold BoxOk at h
 unfold boxCells
 dsimp only at h ⊢
 have hs:=h
 match l,h with
 |[],h=>
  go_enter Tryz.func187,Tryz.ntmps187
  repeat' (first|go_values|go_skip|go_guarded|(with_reducible first|refine Way.go ?_|refine wayO ?_)|go_step|go_upon)
  all_goals
   (apply bodyPost_ret;(simp only [results,Tryz.results187];go_simp;exact rfl);rfl)
   exact ⟨rfl,(by repeat with_reducible first|exact Below.refl _ _|assumption|refine Below.to ?_ (by assumption)|refine blN ?_|refine blA ?_|refine blS ?_|refine blD ?_)⟩
 |m::r,h=>
  obtain ⟨_,hnc,hcm,hel⟩:=h.elem
  obtain ⟨b,off,rfl,hbl,hcell⟩:=hel 0 m rfl
  rw [Nat.zero_mul,Nat.add_zero] at hcell
  have HE:=Lib.hid hcell
  have HB:∀ n:Nat,Hid (Below w.heap.size w (((w.alloc (.cells ch.cells 106)).alloc (.cells #[.slice (some ⟨b,off,none⟩) n c,.int .i64 lost] 84)).alloc (.cells #[.int .u64 0,.string ByteArray.empty] 142))):=fun n=> Lib.hid (by repeat with_reducible first|exact Below.refl _ _|assumption|refine Below.to ?_ (by assumption)|refine blN ?_|refine blA ?_|refine blS ?_|refine blD ?_)
  have HR:∀ n:Nat,Hid ((((w.alloc (.cells ch.cells 106)).alloc (.cells #[.slice (some ⟨b,off,none⟩) n c,.int .i64 lost] 84)).alloc (.cells #[.int .u64 0,.string ByteArray.empty] 142)).heap[w.heap.size + 1 + 1]? =some (.cells #[.int .u64 0,.string ByteArray.empty] 142)):=fun n=> Lib.hid (by
   have h:=hnew ((w.alloc (.cells ch.cells 106)).alloc (.cells #[.slice (some ⟨b,off,none⟩) n c,.int .i64 lost] 84)) (.cells #[.int .u64 0,.string ByteArray.empty] 142)
   simpa only [World.size_alloc] using h)
  clear hcell hel h hs
  obtain ⟨mc,hmc⟩:∃ mc,m.cells=mc:=⟨_,rfl⟩
  have HM:=Lib.hid hmc
  have hms:Hid (mc.size=2):=Lib.hid (by rw [← hmc];rfl)
  have hmo:Hid (∀ u ∈ mc.toList,u.oneCell'=true):=Lib.hid (by rw [← hmc];exact onesMsg m)
  rw [hmc] at HE
  have hpk:(peek ⟨m::r,lost⟩).cells=mc:=hmc
  rw [hpk]
  clear hmc hpk
  go_enter Tryz.func187,Tryz.ntmps187
  repeat' (first
   |(refine wpList_load rfl rfl rfl (run_load_arr aggMsg hms.out (HE.out _ (HB _).out)) ?_)
   |(refine wpList_store (v:=.agg mc) (off:=0) (new:=mc) rfl rfl rfl rfl aggMsg.size (HR _).out hms.out (by simp) hmo.out (splice_whole (by rw [show (Value.agg mc).cells=mc from rfl,hms.out];rfl)) ?_;intro W4 hp4;(have HR4:=Lib.hid hp4.at_);(have HB4:=Lib.hid (Below.put (HB _).out hp4 (by omega)));clear hp4)
   |go_values|go_skip|go_guarded|(with_reducible first|refine Way.go ?_|refine wayO ?_)|go_step|go_upon)
  (try simp only [Exit.inBlock,Exit.then]);refine bodyPost_ret (res_cell_tmp Tryz.results187 aggMsg rfl HR4.out hms.out) rfl ?_
  exact ⟨rfl,HB4.out⟩
/-- what Send answers -/
def GivesSend (ch:Chan) (b:Box) (now:Int) (body:ByteArray) (w:World) (e:Ending) (w':World):Prop:=
 ∃ (y:BoxV) (er:Int),e=.returned (.tuple #[.agg (boxCells y),.int .i64 er])∧y.b=bsend ch b now body∧BoxOk w' y∧Below w.heap.size w w'
set_option maxRecDepth 100000 in
set_option maxHeartbeats 2000000 in
theorem PSend (ch:Chan) (x:BoxV) (now:Int) (body:ByteArray) (w:World) (h:BoxOk w x) (hn:x.b.l.length≤1000000) (hl: -4611686018427387904≤x.b.lost) (hl2:x.b.lost≤4611686018427387904):
 Calls Tryz.prog 37 #[.agg ch.cells,.agg (boxCells x),.int .u64 now,.string body] w (GivesSend ch x.b now body w):=by
 obtain ⟨a,c,l,lost⟩:=x
 obtain ⟨kind,src,dst,size,depth⟩:=ch
 have HX:=Lib.hid h
 unfold BoxOk at h
 unfold boxCells Chan.cells
 dsimp only at h hn hl hl2 HX ⊢
 have HS:=Lib.hid h
 obtain ⟨hnl,hnc,hcm,_⟩:=h.elem
 clear h hnl
 obtain ⟨n,hnn⟩:∃ n,l.length=n:=⟨_,rfl⟩
 rw [hnn] at hn HS hnc ⊢
 have HNN:=Lib.hid hnn
 clear hnn
 by_cases c1:size<(body.size:Int)
 · go_enter Tryz.func37,Tryz.ntmps37
   repeat' (first|go_values|go_skip|go_guarded|(with_reducible first|refine Way.go ?_|refine wayO ?_)|go_step|go_upon)
   (apply bodyPost_ret;(simp only [results,Tryz.results37];go_simp;exact rfl);rfl)
   refine ⟨⟨a,c,l,lost⟩,4,?_,?_,HX.out.below (by repeat with_reducible first|exact Below.refl _ _|assumption|refine Below.to ?_ (by assumption)|refine blN ?_|refine blA ?_|refine blS ?_|refine blD ?_),(by repeat with_reducible first|exact Below.refl _ _|assumption|refine Below.to ?_ (by assumption)|refine blN ?_|refine blA ?_|refine blS ?_|refine blD ?_)⟩
   · unfold boxCells;dsimp only;rw [HNN.out]
   · exact (if_pos c1).symm
 by_cases c2:kind=1
 · subst c2
   have HB0:Hid (Below w.heap.size w ((((w.alloc (.cells #[.int .i64 1,.int .i64 src,.int .i64 dst,.int .i64 size,.int .i64 depth] 106)).alloc (.cells #[.slice none 0 0,.int .i64 lost] 84)).alloc (.cells #[.slice none 0 0,.int .i64 0] 84)).alloc (.cells #[.int .u64 now,.string body] 142))):=Lib.hid (by repeat with_reducible first|exact Below.refl _ _|assumption|refine Below.to ?_ (by assumption)|refine blN ?_|refine blA ?_|refine blS ?_|refine blD ?_)
   obtain ⟨q0,q1,q2,q3⟩:=four_new w w.heap.size (.cells #[.int .i64 1,.int .i64 src,.int .i64 dst,.int .i64 size,.int .i64 depth] 106) (.cells #[.slice none 0 0,.int .i64 lost] 84) (.cells #[.slice none 0 0,.int .i64 0] 84) (.cells #[.int .u64 now,.string body] 142) rfl
   obtain ⟨v',W',hrun,hown,hb⟩:=append_full (P:=Tryz.prog) (bytes:=24) (t:=82) (ty:=82) szMsg (by decide) Tryz.underlying82 (by kernel_rfl) onesMsg (w:=((((w.alloc (.cells #[.int .i64 1,.int .i64 src,.int .i64 dst,.int .i64 size,.int .i64 depth] 106)).alloc (.cells #[.slice none 0 0,.int .i64 lost] 84)).alloc (.cells #[.slice none 0 0,.int .i64 0] 84)).alloc (.cells #[.int .u64 now,.string body] 142))) (a:=none) (n:=0) (c:=1) (l:=[]) Sl.nil (x:=⟨now,body⟩) (xb:=w.heap.size + 1 + 1 + 1) q3 (by unfold maxLen;omega) (by omega)
   have hz:=hb.size
   simp only [World.size_alloc] at hz
   have HRUN:=Lib.hid hrun
   have HSL:=Lib.hid (hown.sl szMsg)
   have h0:=(hb.block w.heap.size (by simp only [World.size_alloc];omega)).trans q0
   have h1:=(hb.block (w.heap.size + 1) (by simp only [World.size_alloc];omega)).trans q1
   have h2:=(hb.block (w.heap.size + 1 + 1) (by simp only [World.size_alloc];omega)).trans q2
   have H1:=Lib.hid h1
   have H2:=Lib.hid h2
   have HB1:=Lib.hid (Below.to HB0.out hb)
   have k0:W'.cell? ⟨w.heap.size + 1,0,none⟩=some (.slice none 0 0):=hcell h1 0
   have k1:W'.cell? ⟨w.heap.size + 1,1,none⟩=some (.int .i64 lost):=hcell h1 1
   have k2:W'.cell? ⟨w.heap.size + 1 + 1,0,none⟩=some (.slice none 0 0):=hcell h2 0
   have k3:W'.cell? ⟨w.heap.size + 1 + 1,1,none⟩=some (.int .i64 0):=hcell h2 1
   have f1:=hfro h1 0
   have f2:=hfro h2 0
   have f3:=hfro h2 1
   obtain ⟨a',c',hv',hsa,hsb⟩:=(hown.sl szMsg).shape
   clear hsa hsb
   have hlen:([] ++ [(⟨now,body⟩:Msg)]).length=1:=by simp
   rw [hlen] at hv'
   have HLEN:=Lib.hid hlen
   subst hv'
   clear hrun hown h0 h1 h2 hb q0 q1 q2 q3 hz hlen
   go_enter Tryz.func37,Tryz.ntmps37
   repeat' (first
    |(at_builtin;refine wpList_append_run _ rfl _ _ _ _ rfl _ _ rfl rfl _ _ HRUN.out ?_)
    |go_values|go_skip|go_guarded|(with_reducible first|refine Way.go ?_|refine wayO ?_)|go_step|go_upon)
   (apply bodyPost_ret;(simp only [results,Tryz.results37];go_simp;exact rfl);rfl)
   refine ⟨⟨a',c',⟨[] ++ [⟨now,body⟩],lost⟩⟩,0,?_,?_,?_,?_⟩
   · unfold boxCells;dsimp only;rw [HLEN.out]
   · unfold bsend
     dsimp only
     rw [if_neg c1]
     rfl
   · unfold BoxOk
     dsimp only
     rw [HLEN.out]
     refine HSL.out.stay (fun k c hc=> ?_)
     have n1:=ne_of_types hc H1.out (by decide)
     have n2:=ne_of_types hc H2.out (by decide)
     simp only [heap_set n1,heap_set n2]
   · have hbl:=HB1.out
     exact (by repeat with_reducible first|exact Below.refl _ _|assumption|refine Below.to ?_ (by assumption)|refine blN ?_|refine blA ?_|refine blS ?_|refine blD ?_)
 have c2b:(kind==1)=false:=by simp [c2]
 by_cases c3:(n:Int)<depth
 · skip
   have HB0:Hid (Below w.heap.size w ((((w.alloc (.cells #[.int .i64 kind,.int .i64 src,.int .i64 dst,.int .i64 size,.int .i64 depth] 106)).alloc (.cells #[.slice a n c,.int .i64 lost] 84)).alloc (.cells #[.slice none 0 0,.int .i64 0] 84)).alloc (.cells #[.int .u64 now,.string body] 142))):=Lib.hid (by repeat with_reducible first|exact Below.refl _ _|assumption|refine Below.to ?_ (by assumption)|refine blN ?_|refine blA ?_|refine blS ?_|refine blD ?_)
   obtain ⟨q0,q1,q2,q3⟩:=four_new w w.heap.size (.cells #[.int .i64 kind,.int .i64 src,.int .i64 dst,.int .i64 size,.int .i64 depth] 106) (.cells #[.slice a n c,.int .i64 lost] 84) (.cells #[.slice none 0 0,.int .i64 0] 84) (.cells #[.int .u64 now,.string body] 142) rfl
   obtain ⟨v',W',hrun,hown,hb⟩:=append_full (P:=Tryz.prog) (bytes:=24) (t:=82) (ty:=82) szMsg (by decide) Tryz.underlying82 (by kernel_rfl) onesMsg (w:=((((w.alloc (.cells #[.int .i64 kind,.int .i64 src,.int .i64 dst,.int .i64 size,.int .i64 depth] 106)).alloc (.cells #[.slice a n c,.int .i64 lost] 84)).alloc (.cells #[.slice none 0 0,.int .i64 0] 84)).alloc (.cells #[.int .u64 now,.string body] 142))) (a:=a) (n:=n) (c:=1) (l:=l) ((HS.out.clip).below HB0.out) (x:=⟨now,body⟩) (xb:=w.heap.size + 1 + 1 + 1) q3 (by unfold maxLen;omega) (by omega)
   have hz:=hb.size
   simp only [World.size_alloc] at hz
   have HRUN:=Lib.hid hrun
   have HSL:=Lib.hid (hown.sl szMsg)
   have h0:=(hb.block w.heap.size (by simp only [World.size_alloc];omega)).trans q0
   have h1:=(hb.block (w.heap.size + 1) (by simp only [World.size_alloc];omega)).trans q1
   have h2:=(hb.block (w.heap.size + 1 + 1) (by simp only [World.size_alloc];omega)).trans q2
   have H1:=Lib.hid h1
   have H2:=Lib.hid h2
   have HB1:=Lib.hid (Below.to HB0.out hb)
   have k0:W'.cell? ⟨w.heap.size + 1,0,none⟩=some (.slice a n c):=hcell h1 0
   have k1:W'.cell? ⟨w.heap.size + 1,1,none⟩=some (.int .i64 lost):=hcell h1 1
   have k2:W'.cell? ⟨w.heap.size + 1 + 1,0,none⟩=some (.slice none 0 0):=hcell h2 0
   have k3:W'.cell? ⟨w.heap.size + 1 + 1,1,none⟩=some (.int .i64 0):=hcell h2 1
   have f1:=hfro h1 0
   have f2:=hfro h2 0
   have f3:=hfro h2 1
   obtain ⟨a',c',hv',hsa,hsb⟩:=(hown.sl szMsg).shape
   clear hsa hsb
   have hlen:(l ++ [(⟨now,body⟩:Msg)]).length=n + 1:=by simp [HNN.out]
   rw [hlen] at hv'
   have HLEN:=Lib.hid hlen
   subst hv'
   clear hrun hown h0 h1 h2 hb q0 q1 q2 q3 hz hlen
   go_enter Tryz.func37,Tryz.ntmps37
   repeat' (first
    |(at_builtin;refine wpList_append_run _ rfl _ _ _ _ rfl _ _ rfl rfl _ _ HRUN.out ?_)
    |go_values|go_skip|go_guarded|(with_reducible first|refine Way.go ?_|refine wayO ?_)|go_step|go_upon)
   (apply bodyPost_ret;(simp only [results,Tryz.results37];go_simp;exact rfl);rfl)
   refine ⟨⟨a',c',⟨l ++ [⟨now,body⟩],lost⟩⟩,0,?_,?_,?_,?_⟩
   · unfold boxCells;dsimp only;rw [HLEN.out]
   · unfold bsend
     dsimp only
     rw [if_neg c1]
     rw [if_neg c2,if_pos (by rw [HNN.out];exact c3)]
   · unfold BoxOk
     dsimp only
     rw [HLEN.out]
     refine HSL.out.stay (fun k c hc=> ?_)
     have n1:=ne_of_types hc H1.out (by decide)
     have n2:=ne_of_types hc H2.out (by decide)
     simp only [heap_set n1,heap_set n2]
   · have hbl:=HB1.out
     exact (by repeat with_reducible first|exact Below.refl _ _|assumption|refine Below.to ?_ (by assumption)|refine blN ?_|refine blA ?_|refine blS ?_|refine blD ?_)
 · have hw:IntKind.i64.wrap (lost + 1)=lost + 1:=by rw [IntKind.wrap_i64];omega
   go_enter Tryz.func37,Tryz.ntmps37
   repeat' (first|go_values|go_skip|go_guarded|(with_reducible first|refine Way.go ?_|refine wayO ?_)|go_step|go_upon)
   (apply bodyPost_ret;(simp only [results,Tryz.results37];go_simp;exact rfl);rfl)
   refine ⟨⟨a,c,l,lost + 1⟩,0,?_,?_,HX.out.below (by repeat with_reducible first|exact Below.refl _ _|assumption|refine Below.to ?_ (by assumption)|refine blN ?_|refine blA ?_|refine blS ?_|refine blD ?_),(by repeat with_reducible first|exact Below.refl _ _|assumption|refine Below.to ?_ (by assumption)|refine blN ?_|refine blA ?_|refine blS ?_|refine blD ?_)⟩
   · unfold boxCells;dsimp only;rw [HNN.out]
   · unfold bsend
     dsimp only
     rw [if_neg c1,if_neg c2,if_neg (by rw [HNN.out];exact c3)]
/-- what Take answers -/
def GivesTake (ch:Chan) (b:Box) (w:World) (e:Ending) (w':World):Prop:=
 ∃ y:BoxV,e=.returned (.tuple #[.agg (boxCells y),.agg (peek b).cells,.int .i64 (if b.l.isEmpty then 7 else 0)])∧y.b=btake ch b∧BoxOk w' y∧Below w.heap.size w w'
set_option maxRecDepth 100000 in
set_option maxHeartbeats 4000000 in
theorem PTake (ch:Chan) (x:BoxV) (w:World) (h:BoxOk w x):Calls Tryz.prog 173 #[.agg ch.cells,.agg (boxCells x)] w (GivesTake ch x.b w):=by
 have HP:=Lib.hid (fun W (hb:Below w.heap.size w W)=> PPeek ch x W (h.below hb))
 have HX:=Lib.hid h
 obtain ⟨a,c,l,lost⟩:=x
 unfold BoxOk at h
 unfold boxCells at HP ⊢
 dsimp only at h HP HX ⊢
 clear h
 have HB0:Hid (Below w.heap.size w ((((w.alloc (.cells ch.cells 106)).alloc (.cells #[.slice a l.length c,.int .i64 lost] 84)).alloc (.cells #[.slice none 0 0,.int .i64 0] 84)).alloc (.cells #[.int .u64 0,.string ByteArray.empty] 142))):=Lib.hid (by repeat with_reducible first|exact Below.refl _ _|assumption|refine Below.to ?_ (by assumption)|refine blN ?_|refine blA ?_|refine blS ?_|refine blD ?_)
 generalize hnn:l.length=n at *
 go_enter Tryz.func173,Tryz.ntmps173
 repeat' (first
  |(refine wpList_load rfl rfl rfl (run_load_whole aggChan (hold (hold (hold (hnew w _)))) rfl) ?_)
  |go_values|go_skip|go_guarded|(with_reducible first|refine Way.go ?_|refine wayO ?_)|go_step|go_upon)
 refine (HP.out _ HB0.out).mono ?_
 rintro e w1 ⟨rfl,hb1⟩
 have hz1:=hb1.size
 simp only [World.size_alloc] at hz1
 obtain ⟨q0,q1,q2,q3⟩:=four_new w w.heap.size (.cells ch.cells 106) (.cells #[.slice a n c,.int .i64 lost] 84) (.cells #[.slice none 0 0,.int .i64 0] 84) (.cells #[.int .u64 0,.string ByteArray.empty] 142) rfl
 have HC1:=Lib.hid ((hb1.block w.heap.size (by simp only [World.size_alloc];omega)).trans q0)
 have HX1:=Lib.hid ((hb1.block (w.heap.size + 1) (by simp only [World.size_alloc];omega)).trans q1)
 have HR1:=Lib.hid ((hb1.block (w.heap.size + 1 + 1) (by simp only [World.size_alloc];omega)).trans q2)
 have HM1:=Lib.hid ((hb1.block (w.heap.size + 1 + 1 + 1) (by simp only [World.size_alloc];omega)).trans q3)
 have HB1:=Lib.hid (Below.to HB0.out hb1)
 clear q0 q1 q2 q3 hb1 HP
 obtain ⟨mc,hmc⟩:∃ mc,(peek ⟨l,lost⟩).cells=mc:=⟨_,rfl⟩
 have hms:Hid (mc.size=2):=Lib.hid (by rw [← hmc];rfl)
 have hmo:Hid (∀ u ∈ mc.toList,u.oneCell'=true):=Lib.hid (by rw [← hmc];exact onesMsg _)
 have HMC:=Lib.hid hmc
 rw [hmc]
 clear hmc
 have HCX:Hid (((w1.alloc (.cells #[.int .u64 0,.string ByteArray.empty] 142))).heap[w1.heap.size]? =some (.cells #[.int .u64 0,.string ByteArray.empty] 142)):=Lib.hid (hnew w1 _)
 dsimp only
 obtain ⟨kind,hkind⟩:∃ kind,ch.kind=kind:=⟨_,rfl⟩
 have hk0:ch.cells[0]? =some (.int .i64 kind):=by rw [← hkind];rfl
 rcases l with _|⟨⟨mt,mb⟩,r⟩
 · simp only [List.length_nil] at hnn
   subst hnn
   obtain ⟨mt,hmt⟩:∃ mt:Int,mt=0:=⟨_,rfl⟩
   obtain ⟨mb,hmb⟩:∃ mb:ByteArray,mb=ByteArray.empty:=⟨_,rfl⟩
   obtain rfl:mc=#[.int .u64 mt,.string mb]:=by rw [← HMC.out,hmt,hmb];rfl
   clear hmt hmb
   have hem:List.isEmpty ([]:List Msg)=true:=rfl
   simp only [hem]
   repeat' (first
    |(refine wpList_store (v:=.agg #[.int .u64 mt,.string mb]) (off:=0) (new:=#[.int .u64 mt,.string mb]) rfl rfl rfl rfl aggMsg.size HCX.out rfl (by simp) (onesMsg ⟨mt,mb⟩) rfl ?_;intro W2 hp2
      have HC2:=Lib.hid ((hp2.oth w.heap.size (by omega)).trans (hold HC1.out))
      have HX2:=Lib.hid ((hp2.oth (w.heap.size + 1) (by omega)).trans (hold HX1.out))
      have HR2:=Lib.hid ((hp2.oth (w.heap.size + 1 + 1) (by omega)).trans (hold HR1.out))
      have HM2:=Lib.hid ((hp2.oth (w.heap.size + 1 + 1 + 1) (by omega)).trans (hold HM1.out))
      have HT2:=Lib.hid hp2.at_
      have HB2:=Lib.hid (Below.put (Below.to HB1.out ((Below.refl w1.heap.size w1).alloc (Nat.le_refl _) _)) hp2 (by omega))
      have k2:=(hcell HC2.out 0).trans hk0
      have kx:W2.cell? ⟨w.heap.size + 1,0,none⟩=some (.slice a 0 c):=hcell HX2.out 0
      clear hp2)
    |go_values|go_skip|go_guarded|(with_reducible first|refine Way.go ?_|refine wayO ?_)|go_step|go_upon)
   refine wp_region_noPanic ?_
   refine RegTail.startL (st:=[3,4]) (S:=fun W=> (W.cell? ⟨w.heap.size + 1,0,none⟩=some (.slice a 0 c)∧W.cell? ⟨w.heap.size + 1,1,none⟩=some (.int .i64 lost))∧(W.cell? ⟨w1.heap.size,0,none⟩=some (.int .u64 mt)∧W.cell? ⟨w1.heap.size,1,none⟩=some (.string mb))) (by kernel_rfl) ?_
   have hS:(fun W:World=> (W.cell? ⟨w.heap.size + 1,0,none⟩=some (.slice a 0 c)∧W.cell? ⟨w.heap.size + 1,1,none⟩=some (.int .i64 lost))∧(W.cell? ⟨w1.heap.size,0,none⟩=some (.int .u64 mt)∧W.cell? ⟨w1.heap.size,1,none⟩=some (.string mb))) W2.drew:=⟨⟨hcell HX2.out 0,hcell HX2.out 1⟩,hcell HT2.out 0,hcell HT2.out 1⟩
   (refine RegTail.tl 0 ?_);(try simp only [RegT3.acts])
   (refine RegTail.tl 1 ?_);(try simp only [RegT3.acts])
   (refine RegTail.ro 2 fun K hK=> ?_)
   refine RegTail.want rfl ?_
   refine wp_store (v:=.agg #[(.slice a 0 c),.int .i64 lost]) (off:=0) (new:=#[(.slice a 0 c),.int .i64 lost]) rfl rfl rfl aggBox.size HR2.out rfl (by simp) (by intro u hu;simp [Value.cells] at hu;rcases hu with rfl|rfl <;> rfl) rfl ?_
   intro W5 hp5
   have HX5:=Lib.hid ((hp5.oth (w.heap.size + 1) (by omega)).trans HX2.out)
   have HM5:=Lib.hid ((hp5.oth (w.heap.size + 1 + 1 + 1) (by omega)).trans HM2.out)
   have HT5:=Lib.hid ((hp5.oth w1.heap.size (by omega)).trans HT2.out)
   have HR5:=Lib.hid hp5.at_
   have HB5:=Lib.hid (Below.put (Below.drew HB2.out) hp5 (by omega))
   have HK5:=Lib.hid hp5
   clear hp5
   refine hK.out _ _ (fun _=> ⟨⟨hcell HX5.out 0,hcell HX5.out 1⟩,hcell HT5.out 0,hcell HT5.out 1⟩) ?_
   clear hK K hS
   (refine RegTail.ro 3 fun K hK=> ?_)
   refine RegTail.want rfl ?_
   refine wp_store (v:=.agg #[.int .u64 mt,.string mb]) (off:=0) (new:=#[.int .u64 mt,.string mb]) rfl rfl rfl aggMsg.size HM5.out rfl (by simp) (onesMsg ⟨mt,mb⟩) rfl ?_
   intro W6 hp6
   have HR6:=Lib.hid ((hp6.oth (w.heap.size + 1 + 1) (by omega)).trans HR5.out)
   have HM6:=Lib.hid hp6.at_
   have HB6:=Lib.hid (Below.put HB5.out hp6 (by omega))
   have HK6:=Lib.hid hp6
   clear hp6
   refine hK.out _ _ (fun h=> absurd h (by decide)) ?_
   clear hK K
   (refine RegTail.ro 4 fun K hK=> ?_)
   go_simp
   refine hK.out _ _ (fun h=> absurd h (by decide)) ?_
   clear hK K
   refine RegTail.doneL (by kernel_rfl) (NoPanic.normal ?_) _
   repeat' (first|go_values|go_skip|go_guarded|(with_reducible first|refine Way.go ?_|refine wayO ?_)|go_step|go_upon)
   (try simp only [Exit.inBlock,Exit.then]);refine bodyPost_ret (res_cell2_tmp Tryz.results173 aggBox aggMsg rfl rfl HR6.out rfl HM6.out rfl) rfl ?_
   exact ⟨⟨a,c,⟨[],lost⟩⟩,by rw [show (peek ⟨[],lost⟩).cells=_ from HMC.out];rfl,by rw [btake];split <;> rfl,Sl.empty HX.out.elem.2.2.1,HB6.out⟩
 · obtain rfl:mc=#[.int .u64 mt,.string mb]:=by rw [← HMC.out];rfl
   have hem:List.isEmpty (⟨mt,mb⟩::r:List Msg)=false:=rfl
   simp only [hem]
   have hrl:Hid (r.length=n - 1):=Lib.hid (by rw [← hnn];simp)
   have HNN:=Lib.hid hnn
   have hn1:1≤n:=by rw [← hnn];simp
   have hn1I:(1:Int)≤(n:Int):=by omega
   have HS:Hid (Sl 142 2 Msg.cells w (.slice a n c) (⟨mt,mb⟩::r)):=Lib.hid (by have h:=HX.out;unfold BoxOk at h;dsimp only at h;rwa [hnn] at h)
   obtain ⟨hnl,hnc,hcm,hel⟩:=HS.out.elem
   obtain ⟨b,off,rfl,hbl,_⟩:=hel 0 _ rfl
   clear hel hnn hem hnl
   by_cases hkd:kind=1
   · subst hkd
     have hkb:((1:Int) !=1)=false:=rfl
     repeat' (first
      |(refine wpList_store (v:=.agg #[.int .u64 mt,.string mb]) (off:=0) (new:=#[.int .u64 mt,.string mb]) rfl rfl rfl rfl aggMsg.size HCX.out rfl (by simp) (onesMsg ⟨mt,mb⟩) rfl ?_;intro W2 hp2
        have HC2:=Lib.hid ((hp2.oth w.heap.size (by omega)).trans (hold HC1.out))
        have HX2:=Lib.hid ((hp2.oth (w.heap.size + 1) (by omega)).trans (hold HX1.out))
        have HR2:=Lib.hid ((hp2.oth (w.heap.size + 1 + 1) (by omega)).trans (hold HR1.out))
        have HM2:=Lib.hid ((hp2.oth (w.heap.size + 1 + 1 + 1) (by omega)).trans (hold HM1.out))
        have HT2:=Lib.hid hp2.at_
        have HB2:=Lib.hid (Below.put (Below.to HB1.out ((Below.refl w1.heap.size w1).alloc (Nat.le_refl _) _)) hp2 (by omega))
        have k2:=(hcell HC2.out 0).trans hk0
        have kx:W2.cell? ⟨w.heap.size + 1,0,none⟩=some (.slice (some ⟨b,off,none⟩) n c):=hcell HX2.out 0
        clear hp2)
      |go_values|go_skip|go_guarded|(with_reducible first|refine Way.go ?_|refine wayO ?_)|go_step|go_upon)
     refine wp_region_noPanic ?_
     refine RegTail.startL (st:=[3,4]) (S:=fun W=> (W.cell? ⟨w.heap.size + 1,0,none⟩=some (.slice (some ⟨b,off,none⟩) n c)∧W.cell? ⟨w.heap.size + 1,1,none⟩=some (.int .i64 lost))∧(W.cell? ⟨w1.heap.size,0,none⟩=some (.int .u64 mt)∧W.cell? ⟨w1.heap.size,1,none⟩=some (.string mb))) (by kernel_rfl) ?_
     have hS:(fun W:World=> (W.cell? ⟨w.heap.size + 1,0,none⟩=some (.slice (some ⟨b,off,none⟩) n c)∧W.cell? ⟨w.heap.size + 1,1,none⟩=some (.int .i64 lost))∧(W.cell? ⟨w1.heap.size,0,none⟩=some (.int .u64 mt)∧W.cell? ⟨w1.heap.size,1,none⟩=some (.string mb))) W2.drew:=⟨⟨hcell HX2.out 0,hcell HX2.out 1⟩,hcell HT2.out 0,hcell HT2.out 1⟩
     (refine RegTail.tl 0 ?_);(try simp only [RegT3.acts])
     (refine RegTail.tl 1 ?_);(try simp only [RegT3.acts])
     (refine RegTail.ro 2 fun K hK=> ?_)
     refine RegTail.want rfl ?_
     refine wp_store (v:=.agg #[(.slice (some ⟨b,off,none⟩) n c),.int .i64 lost]) (off:=0) (new:=#[(.slice (some ⟨b,off,none⟩) n c),.int .i64 lost]) rfl rfl rfl aggBox.size HR2.out rfl (by simp) (by intro u hu;simp [Value.cells] at hu;rcases hu with rfl|rfl <;> rfl) rfl ?_
     intro W5 hp5
     have HX5:=Lib.hid ((hp5.oth (w.heap.size + 1) (by omega)).trans HX2.out)
     have HM5:=Lib.hid ((hp5.oth (w.heap.size + 1 + 1 + 1) (by omega)).trans HM2.out)
     have HT5:=Lib.hid ((hp5.oth w1.heap.size (by omega)).trans HT2.out)
     have HR5:=Lib.hid hp5.at_
     have HB5:=Lib.hid (Below.put (Below.drew HB2.out) hp5 (by omega))
     have HK5:=Lib.hid hp5
     clear hp5
     refine hK.out _ _ (fun _=> ⟨⟨hcell HX5.out 0,hcell HX5.out 1⟩,hcell HT5.out 0,hcell HT5.out 1⟩) ?_
     clear hK K hS
     (refine RegTail.ro 3 fun K hK=> ?_)
     refine RegTail.want rfl ?_
     refine wp_store (v:=.agg #[.int .u64 mt,.string mb]) (off:=0) (new:=#[.int .u64 mt,.string mb]) rfl rfl rfl aggMsg.size HM5.out rfl (by simp) (onesMsg ⟨mt,mb⟩) rfl ?_
     intro W6 hp6
     have HR6:=Lib.hid ((hp6.oth (w.heap.size + 1 + 1) (by omega)).trans HR5.out)
     have HM6:=Lib.hid hp6.at_
     have HB6:=Lib.hid (Below.put HB5.out hp6 (by omega))
     have HK6:=Lib.hid hp6
     clear hp6
     refine hK.out _ _ (fun h=> absurd h (by decide)) ?_
     clear hK K
     (refine RegTail.ro 4 fun K hK=> ?_)
     go_simp
     refine hK.out _ _ (fun h=> absurd h (by decide)) ?_
     clear hK K
     refine RegTail.doneL (by kernel_rfl) (NoPanic.normal ?_) _
     repeat' (first|go_values|go_skip|go_guarded|(with_reducible first|refine Way.go ?_|refine wayO ?_)|go_step|go_upon)
     (try simp only [Exit.inBlock,Exit.then]);refine bodyPost_ret (res_cell2_tmp Tryz.results173 aggBox aggMsg rfl rfl HR6.out rfl HM6.out rfl) rfl ?_
     exact ⟨⟨some ⟨b,off,none⟩,c,⟨⟨mt,mb⟩::r,lost⟩⟩,by rw [show (peek ⟨⟨mt,mb⟩::r,lost⟩).cells=_ from HMC.out];unfold boxCells;dsimp only;rw [HNN.out];rfl,by rw [btake,if_pos hkind],HX.out.below HB6.out,HB6.out⟩
   · have hkb:(kind !=1)=true:=by simp [hkd]
     repeat' (first
      |(refine wpList_store (v:=.agg #[.int .u64 mt,.string mb]) (off:=0) (new:=#[.int .u64 mt,.string mb]) rfl rfl rfl rfl aggMsg.size HCX.out rfl (by simp) (onesMsg ⟨mt,mb⟩) rfl ?_;intro W2 hp2
        have HC2:=Lib.hid ((hp2.oth w.heap.size (by omega)).trans (hold HC1.out))
        have HX2:=Lib.hid ((hp2.oth (w.heap.size + 1) (by omega)).trans (hold HX1.out))
        have HR2:=Lib.hid ((hp2.oth (w.heap.size + 1 + 1) (by omega)).trans (hold HR1.out))
        have HM2:=Lib.hid ((hp2.oth (w.heap.size + 1 + 1 + 1) (by omega)).trans (hold HM1.out))
        have HT2:=Lib.hid hp2.at_
        have HB2:=Lib.hid (Below.put (Below.to HB1.out ((Below.refl w1.heap.size w1).alloc (Nat.le_refl _) _)) hp2 (by omega))
        have k2:=(hcell HC2.out 0).trans hk0
        have kx:W2.cell? ⟨w.heap.size + 1,0,none⟩=some (.slice (some ⟨b,off,none⟩) n c):=hcell HX2.out 0
        clear hp2)
      |(refine wpList_store (v:=(.slice (if n=1 then some ⟨b,off,none⟩ else some ⟨b,off + 1 * 2,none⟩) (n - 1) (n - 1))) (off:=0) (new:=#[(.slice (if n=1 then some ⟨b,off,none⟩ else some ⟨b,off + 1 * 2,none⟩) (n - 1) (n - 1)),.int .i64 lost]) rfl rfl rfl rfl oneSMsg.size HX2.out rfl (by simp) (by intro u hu;simp [Value.cells] at hu;subst hu;rfl) rfl ?_;intro W3 hp3
        have HX3:=Lib.hid hp3.at_
        have HR3:=Lib.hid ((hp3.oth (w.heap.size + 1 + 1) (by omega)).trans HR2.out)
        have HM3:=Lib.hid ((hp3.oth (w.heap.size + 1 + 1 + 1) (by omega)).trans HM2.out)
        have HT3:=Lib.hid ((hp3.oth w1.heap.size (by omega)).trans HT2.out)
        have HB3:=Lib.hid (Below.put HB2.out hp3 (by omega))
        clear hp3)
      |go_values|go_skip|go_guarded|(with_reducible first|refine Way.go ?_|refine wayO ?_)|go_step|go_upon)
     refine wp_region_noPanic ?_
     refine RegTail.startL (st:=[3,4]) (S:=fun W=> (W.cell? ⟨w.heap.size + 1,0,none⟩=some (.slice (if n=1 then some ⟨b,off,none⟩ else some ⟨b,off + 1 * 2,none⟩) (n - 1) (n - 1))∧W.cell? ⟨w.heap.size + 1,1,none⟩=some (.int .i64 lost))∧(W.cell? ⟨w1.heap.size,0,none⟩=some (.int .u64 mt)∧W.cell? ⟨w1.heap.size,1,none⟩=some (.string mb))) (by kernel_rfl) ?_
     have hS:(fun W:World=> (W.cell? ⟨w.heap.size + 1,0,none⟩=some (.slice (if n=1 then some ⟨b,off,none⟩ else some ⟨b,off + 1 * 2,none⟩) (n - 1) (n - 1))∧W.cell? ⟨w.heap.size + 1,1,none⟩=some (.int .i64 lost))∧(W.cell? ⟨w1.heap.size,0,none⟩=some (.int .u64 mt)∧W.cell? ⟨w1.heap.size,1,none⟩=some (.string mb))) W3.drew:=⟨⟨hcell HX3.out 0,hcell HX3.out 1⟩,hcell HT3.out 0,hcell HT3.out 1⟩
     (refine RegTail.tl 0 ?_);(try simp only [RegT3.acts])
     (refine RegTail.tl 1 ?_);(try simp only [RegT3.acts])
     (refine RegTail.ro 2 fun K hK=> ?_)
     refine RegTail.want rfl ?_
     refine wp_store (v:=.agg #[(.slice (if n=1 then some ⟨b,off,none⟩ else some ⟨b,off + 1 * 2,none⟩) (n - 1) (n - 1)),.int .i64 lost]) (off:=0) (new:=#[(.slice (if n=1 then some ⟨b,off,none⟩ else some ⟨b,off + 1 * 2,none⟩) (n - 1) (n - 1)),.int .i64 lost]) rfl rfl rfl aggBox.size HR3.out rfl (by simp) (by intro u hu;simp [Value.cells] at hu;rcases hu with rfl|rfl <;> rfl) rfl ?_
     intro W5 hp5
     have HX5:=Lib.hid ((hp5.oth (w.heap.size + 1) (by omega)).trans HX3.out)
     have HM5:=Lib.hid ((hp5.oth (w.heap.size + 1 + 1 + 1) (by omega)).trans HM3.out)
     have HT5:=Lib.hid ((hp5.oth w1.heap.size (by omega)).trans HT3.out)
     have HR5:=Lib.hid hp5.at_
     have HB5:=Lib.hid (Below.put (Below.drew HB3.out) hp5 (by omega))
     have HK5:=Lib.hid hp5
     clear hp5
     refine hK.out _ _ (fun _=> ⟨⟨hcell HX5.out 0,hcell HX5.out 1⟩,hcell HT5.out 0,hcell HT5.out 1⟩) ?_
     clear hK K hS
     (refine RegTail.ro 3 fun K hK=> ?_)
     refine RegTail.want rfl ?_
     refine wp_store (v:=.agg #[.int .u64 mt,.string mb]) (off:=0) (new:=#[.int .u64 mt,.string mb]) rfl rfl rfl aggMsg.size HM5.out rfl (by simp) (onesMsg ⟨mt,mb⟩) rfl ?_
     intro W6 hp6
     have HR6:=Lib.hid ((hp6.oth (w.heap.size + 1 + 1) (by omega)).trans HR5.out)
     have HM6:=Lib.hid hp6.at_
     have HB6:=Lib.hid (Below.put HB5.out hp6 (by omega))
     have HK6:=Lib.hid hp6
     clear hp6
     refine hK.out _ _ (fun h=> absurd h (by decide)) ?_
     clear hK K
     (refine RegTail.ro 4 fun K hK=> ?_)
     go_simp
     refine hK.out _ _ (fun h=> absurd h (by decide)) ?_
     clear hK K
     refine RegTail.doneL (by kernel_rfl) (NoPanic.normal ?_) _
     repeat' (first|go_values|go_skip|go_guarded|(with_reducible first|refine Way.go ?_|refine wayO ?_)|go_step|go_upon)
     (try simp only [Exit.inBlock,Exit.then]);refine bodyPost_ret (res_cell2_tmp Tryz.results173 aggBox aggMsg rfl rfl HR6.out rfl HM6.out rfl) rfl ?_
     exact ⟨⟨if n=1 then some ⟨b,off,none⟩ else some ⟨b,off + 1 * 2,none⟩,n - 1,⟨r,lost⟩⟩,by rw [show (peek ⟨⟨mt,mb⟩::r,lost⟩).cells=_ from HMC.out];unfold boxCells;dsimp only;rw [hrl.out];rfl,(show (⟨r,lost⟩:Box)=btake ch ⟨⟨mt,mb⟩::r,lost⟩ by rw [btake,if_neg (show ¬ ch.kind=1 by rw [hkind];exact hkd)];rfl),by unfold BoxOk;dsimp only;rw [hrl.out];exact (Sl.drop (HS.out.clip) 1 hn1 (fun b' off' hb=> by injection hb with hb;injection hb with h1 h2 _;subst h1 h2;rfl)).below HB6.out,HB6.out⟩
end Kn
end Go.Proofs.YtalapfkfdhpomaaGreatDoor
