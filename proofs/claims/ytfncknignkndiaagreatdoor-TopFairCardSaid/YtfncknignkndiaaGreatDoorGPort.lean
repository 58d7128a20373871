/- One element appended to a slice that is full: a new row, all else as it was. Conditions: as told. -/
import Derived.ArgAppend
import Derived.Test.YtfncknignkndiaaGreatDoorGTurn
set_option linter.unusedVariables false
set_option maxRecDepth 100000
set_option maxHeartbeats 8000000
set_option linter.unusedSimpArgs false
namespace Go.Proofs.YtfncknignkndiaaGreatDoor
open Tryz
open Go.RowKit
namespace KR
variable {α:Type}
theorem jQ {P:Program} {t ty E:TypeId} {sz bytes:Nat} {f:α→Array Value} (hf:∀ x,(f x).size=sz) (hsz:0<sz) (hu:P.underlying t=some (.slice E))
 (hi:(P.info? E).map (fun i=> (i.zero.map (·.cells.size),i.size,i.bytes))=some (some sz,sz,bytes)) (hones:∀ x,∀ u ∈ (f x).toList,u.oneCell'=true) {w:World} {a:Option Addr} {n c:Nat} {l:List α} (h:Sl E sz f w (.slice a n n) l)
 {x:α} {xb:Nat} {fr:Nat × Nat} {T:TypeId} (hx:w.heap[xb]? =some (.cells (f x) T fr)) (hn:n + 1≤maxLen) (hb:(n + 1) * bytes≤140737488355328):
 ∃ v' W',(Builtin.append_ #[t,t] ty #[.slice a n n,.slice (some ⟨xb,0,none⟩) 1 c]).run P w=.ok v' W'∧Own E sz f w.heap.size W' v' (l ++ [x])∧Below w.heap.size w W':=by
 cases hq:P.info? E with
 |none=> rw [hq] at hi;cases hi
 |some i=>
  rw [hq] at hi;simp only [Option.map_some,Option.some.injEq,Prod.mk.injEq] at hi;obtain ⟨h1,h2,h3⟩:=hi;cases hz:i.zero with
  |none=> rw [hz] at h1;cases h1
  |some z=>
   rw [hz] at h1;have hzs:z.cells.size=sz:=by simpa using h1
   have hnews:∀ j u,(f x).toList[j]? =some u→w.cell? ((⟨xb,0,none⟩:Addr).add j)=some u:=fun j u hj=> by
    rw [oL,Nat.zero_add,aC hx];simpa using hj
   have hnl:(f x).toList.length=1 * sz:=by rw [Array.length_toList,hf,Nat.one_mul]
   have hnn:n=l.length:=h.elem.1;have hgb:∀ W' v',w.grownBy W' v'→(∀ k,k<w.heap.size→some k ≠ v')→Below w.heap.size w W':=fun W' v' hg hv=> ⟨hg.os,hg.tape,hg.output,hg.size,fun k hk=> hg.block k hk (hv k hk)⟩
   cases a with
   |none=>
    have hl0:l=[]:=by
     obtain ⟨_,_,he,_,_,h|⟨b,off,cur,ha,_⟩⟩:=h
     · exact h
     · injection he with he
       subst he;cases ha
    subst hl0;have hn0:n=0:=hnn;subst hn0;obtain ⟨v',W',hr,ho,hg,_⟩:=run_append_own (P:=P) w w.heap.size t ty E i z sz bytes hu hq hz h2 h3 hzs hsz (.slice none 0 0) 0 [] (World.ownsRow_nil w _ E sz) ⟨xb,0,none⟩ 1 c (f x).toList hnl hnews (hones x) (by omega) (by omega) (Nat.le_refl _);exact ⟨v',W',hr,by simpa [Own,flat] using ho,hgb W' _ hg (fun k hk e=> by cases e)⟩
   |some b=>
    have holds:∀ j u,(flat f l)[j]? =some u→w.cell? (b.add j)=some u:=by
     obtain ⟨_,_,he,_,_,h'|⟨b',off,cur,ha,_⟩⟩:=id h
     · subst h';intro j u hj;simp [flat] at hj
     · injection he with he
       subst he;injection ha with ha
       subst ha;intro j u hj;rw [oL];exact h.lJ hf j u hj
    obtain ⟨v',W',hr,ho,hg⟩:=run_append_arg_grows (P:=P) (w:=w) t ty E i z sz bytes hu hq hz h2 h3 hzs hsz b n n (flat f l) (by rw [dX hf,hnn]) holds ⟨xb,0,none⟩ 1 c (f x).toList hnl hnews (by omega) hn hb;refine ⟨v',W',hr,?_,hgb W' _ hg (fun k hk e=> by cases e)⟩;unfold Own;rw [eQ,List.length_append,← hnn];simpa [flat] using ho
end KR
end Go.Proofs.YtfncknignkndiaaGreatDoor
namespace Go.Proofs.YtfncknignkndiaaGreatDoor
open Tryz
open Go.RowKit KR
namespace Kn
def lG (W:World) (x:fY):Prop:=Sl 196 2 Msg.cells W (.slice x.a x.b.l.length x.c) x.b.l
def peek (b:Box):Msg:=match b.l with|[]=> ⟨0,ByteArray.empty⟩|m::_=> m
theorem qYr (ch:cS) (x:fY) (w:World) (h:lG w x):Calls prog 232 #[.agg ch.cells,.agg (aX x)] w (aN (.tuple #[.agg (peek x.b).cells,.bool (!x.b.l.isEmpty)]) w):=by
 obtain ⟨a,c,l,lost⟩:=x;unfold lG at h;unfold aX;dsimp only at h ⊢;have hs:=h;match l,h with
 |[],h=>
  go_in;refine sg ?_;intros
  all_goals
   (apply bodyPost_ret;(simp only [results,results232];go_simp;exact rfl);rfl)
   exact ⟨rfl,bel⟩
 |m::r,h=>
  obtain ⟨_,hnc,hcm,hel⟩:=h.elem;obtain ⟨b,off,rfl,hbl,aC⟩:=hel 0 m rfl;rw [Nat.zero_mul,Nat.add_zero] at aC;have HE:=hU aC;have HB:∀ n:Nat,Hid (Below w.heap.size w (((w.alloc (.cells ch.cells 102)).alloc (.cells #[.slice (some ⟨b,off,none⟩) n c,.int .i64 lost] 145)).alloc (.cells #[.int .u64 0,.string ByteArray.empty] 196))):=fun n=> hU bel
  have HR:∀ n:Nat,Hid ((((w.alloc (.cells ch.cells 102)).alloc (.cells #[.slice (some ⟨b,off,none⟩) n c,.int .i64 lost] 145)).alloc (.cells #[.int .u64 0,.string ByteArray.empty] 196)).heap[w.heap.size + 1 + 1]? =some (.cells #[.int .u64 0,.string ByteArray.empty] 196)):=fun n=> hU (by
   have h:=fZ ((w.alloc (.cells ch.cells 102)).alloc (.cells #[.slice (some ⟨b,off,none⟩) n c,.int .i64 lost] 145)) (.cells #[.int .u64 0,.string ByteArray.empty] 196);simpa only [World.size_alloc] using h)
  clear aC hel h hs;obtain ⟨mc,hmc⟩:∃ mc,m.cells=mc:=⟨_,rfl⟩
  have HM:=hU hmc;have hms:Hid (mc.size=2):=hU (by rw [← hmc];rfl);have hmo:Hid (∀ u ∈ mc.toList,u.oneCell'=true):=hU (by rw [← hmc];exact lR m);rw [hmc] at HE;have hpk:(peek ⟨m::r,lost⟩).cells=mc:=hmc;rw [hpk];clear hmc hpk;go_in
  repeat' (first
   |(refine aE rfl rfl rfl (cA lI hms.out (HE.out _ (HB _).out)) ?_)
   |(refine aK (v:=.agg mc) (off:=0) (new:=mc) rfl rfl rfl rfl lI.size (HR _).out hms.out (by simp) hmo.out (eD (by rw [show (Value.agg mc).cells=mc from rfl,hms.out];rfl)) ?_;intro W4 hp4;(have HR4:=hU hp4.at_);(have HB4:=hU (Below.put (HB _).out hp4 (by omega)));clear hp4)
   |go_values|go_skip|go_guarded|refine wg ?_|go_step|go_upon)
  (try simp only [Exit.inBlock,Exit.then]);refine bodyPost_ret (aT results232 lI rfl HR4.out hms.out) rfl ?_
  exact ⟨rfl,HB4.out⟩
def qKs (ch:cS) (b:Box) (now:Int) (body:ByteArray) (w:World) (e:Ending) (w':World):Prop:=
 ∃ (y:fY) (er:Int),e=.returned (.tuple #[.agg (aX y),.int .i64 er])∧y.b=tU ch b now body∧lG w' y∧Below w.heap.size w w'
theorem qTx (ch:cS) (x:fY) (now:Int) (body:ByteArray) (w:World) (h:lG w x) (hn:x.b.l.length≤1000000) (hl: -4611686018427387904≤x.b.lost) (hl2:x.b.lost≤4611686018427387904):
 Calls prog 150 #[.agg ch.cells,.agg (aX x),.int .u64 now,.string body] w (qKs ch x.b now body w):=by
 obtain ⟨a,c,l,lost⟩:=x;obtain ⟨kind,src,dst,size,depth⟩:=ch;have HX:=hU h;unfold lG at h;unfold aX cS.cells;dsimp only at h hn hl hl2 HX ⊢;have HS:=hU h;obtain ⟨hnl,hnc,hcm,_⟩:=h.elem;clear h hnl;obtain ⟨n,hnn⟩:∃ n,l.length=n:=⟨_,rfl⟩
 rw [hnn] at hn HS hnc ⊢;have HNN:=hU hnn;clear hnn;by_cases c1:size<(body.size:Int)
 · go_in;refine sg ?_;intros;(apply bodyPost_ret;(simp only [results,results150];go_simp;exact rfl);rfl)
   refine ⟨⟨a,c,l,lost⟩,4,?_,?_,HX.out.below bel,bel⟩
   · unfold aX;dsimp only;rw [HNN.out]
   · exact (if_pos c1).symm
 by_cases c2:kind=1
 · subst c2;have HB0:Hid (Below w.heap.size w ((((w.alloc (.cells #[.int .i64 1,.int .i64 src,.int .i64 dst,.int .i64 size,.int .i64 depth] 102)).alloc (.cells #[.slice none 0 0,.int .i64 lost] 145)).alloc (.cells #[.slice none 0 0,.int .i64 0] 145)).alloc (.cells #[.int .u64 now,.string body] 196))):=hU bel;obtain ⟨q0,q1,q2,q3⟩:=uB w w.heap.size (.cells #[.int .i64 1,.int .i64 src,.int .i64 dst,.int .i64 size,.int .i64 depth] 102) (.cells #[.slice none 0 0,.int .i64 lost] 145) (.cells #[.slice none 0 0,.int .i64 0] 145) (.cells #[.int .u64 now,.string body] 196) rfl;obtain ⟨v',W',hrun,hown,hb⟩:=jQ (P:=prog) (bytes:=24) (t:=143) (ty:=143) qDg (by decide) underlying143 (by kernel_rfl) lR (w:=((((w.alloc (.cells #[.int .i64 1,.int .i64 src,.int .i64 dst,.int .i64 size,.int .i64 depth] 102)).alloc (.cells #[.slice none 0 0,.int .i64 lost] 145)).alloc (.cells #[.slice none 0 0,.int .i64 0] 145)).alloc (.cells #[.int .u64 now,.string body] 196))) (a:=none) (n:=0) (c:=1) (l:=[]) Sl.nil (x:=⟨now,body⟩) (xb:=w.heap.size + 1 + 1 + 1) q3 (by unfold maxLen;omega) (by omega);have hz:=hb.size;simp only [World.size_alloc] at hz;have HRUN:=hU hrun;have HSL:=hU (hown.sl qDg);have h0:=(hb.block w.heap.size (by simp only [World.size_alloc];omega)).trans q0;have h1:=(hb.block (w.heap.size + 1) (by simp only [World.size_alloc];omega)).trans q1;have h2:=(hb.block (w.heap.size + 1 + 1) (by simp only [World.size_alloc];omega)).trans q2;have H1:=hU h1;have H2:=hU h2;have HB1:=hU (Below.to HB0.out hb);have k0:W'.cell? ⟨w.heap.size + 1,0,none⟩=some (.slice none 0 0):=aC h1 0;have k1:W'.cell? ⟨w.heap.size + 1,1,none⟩=some (.int .i64 lost):=aC h1 1;have k2:W'.cell? ⟨w.heap.size + 1 + 1,0,none⟩=some (.slice none 0 0):=aC h2 0;have k3:W'.cell? ⟨w.heap.size + 1 + 1,1,none⟩=some (.int .i64 0):=aC h2 1;have f1:=hfro h1 0;have f2:=hfro h2 0;have f3:=hfro h2 1;obtain ⟨a',c',hv',hsa,hsb⟩:=(hown.sl qDg).shape;clear hsa hsb;have hlen:([] ++ [(⟨now,body⟩:Msg)]).length=1:=by simp
   rw [hlen] at hv';have HLEN:=hU hlen;subst hv';clear hrun hown h0 h1 h2 hb q0 q1 q2 q3 hz hlen;go_in
   repeat' (first
    |(at_builtin;refine cV _ rfl _ _ _ _ rfl _ _ rfl rfl _ _ HRUN.out ?_)
    |go_values|go_skip|go_guarded|refine wg ?_|go_step|go_upon)
   (apply bodyPost_ret;(simp only [results,results150];go_simp;exact rfl);rfl)
   refine ⟨⟨a',c',⟨[] ++ [⟨now,body⟩],lost⟩⟩,0,?_,?_,?_,?_⟩
   · unfold aX;dsimp only;rw [HLEN.out]
   · unfold tU;dsimp only;rw [if_neg c1];rfl
   · unfold lG;dsimp only;rw [HLEN.out];refine HSL.out.stay (fun k c hc=> ?_);have n1:=eS hc H1.out (by decide);have n2:=eS hc H2.out (by decide);simp only [heap_set n1,heap_set n2]
   · have hbl:=HB1.out;exact bel
 have c2b:(kind==1)=false:=by simp [c2]
 by_cases c3:(n:Int)<depth
 · skip
   have HB0:Hid (Below w.heap.size w ((((w.alloc (.cells #[.int .i64 kind,.int .i64 src,.int .i64 dst,.int .i64 size,.int .i64 depth] 102)).alloc (.cells #[.slice a n c,.int .i64 lost] 145)).alloc (.cells #[.slice none 0 0,.int .i64 0] 145)).alloc (.cells #[.int .u64 now,.string body] 196))):=hU bel;obtain ⟨q0,q1,q2,q3⟩:=uB w w.heap.size (.cells #[.int .i64 kind,.int .i64 src,.int .i64 dst,.int .i64 size,.int .i64 depth] 102) (.cells #[.slice a n c,.int .i64 lost] 145) (.cells #[.slice none 0 0,.int .i64 0] 145) (.cells #[.int .u64 now,.string body] 196) rfl;obtain ⟨v',W',hrun,hown,hb⟩:=jQ (P:=prog) (bytes:=24) (t:=143) (ty:=143) qDg (by decide) underlying143 (by kernel_rfl) lR (w:=((((w.alloc (.cells #[.int .i64 kind,.int .i64 src,.int .i64 dst,.int .i64 size,.int .i64 depth] 102)).alloc (.cells #[.slice a n c,.int .i64 lost] 145)).alloc (.cells #[.slice none 0 0,.int .i64 0] 145)).alloc (.cells #[.int .u64 now,.string body] 196))) (a:=a) (n:=n) (c:=1) (l:=l) ((HS.out.clip).below HB0.out) (x:=⟨now,body⟩) (xb:=w.heap.size + 1 + 1 + 1) q3 (by unfold maxLen;omega) (by omega);have hz:=hb.size;simp only [World.size_alloc] at hz;have HRUN:=hU hrun;have HSL:=hU (hown.sl qDg);have h0:=(hb.block w.heap.size (by simp only [World.size_alloc];omega)).trans q0;have h1:=(hb.block (w.heap.size + 1) (by simp only [World.size_alloc];omega)).trans q1;have h2:=(hb.block (w.heap.size + 1 + 1) (by simp only [World.size_alloc];omega)).trans q2;have H1:=hU h1;have H2:=hU h2;have HB1:=hU (Below.to HB0.out hb);have k0:W'.cell? ⟨w.heap.size + 1,0,none⟩=some (.slice a n c):=aC h1 0;have k1:W'.cell? ⟨w.heap.size + 1,1,none⟩=some (.int .i64 lost):=aC h1 1;have k2:W'.cell? ⟨w.heap.size + 1 + 1,0,none⟩=some (.slice none 0 0):=aC h2 0;have k3:W'.cell? ⟨w.heap.size + 1 + 1,1,none⟩=some (.int .i64 0):=aC h2 1;have f1:=hfro h1 0;have f2:=hfro h2 0;have f3:=hfro h2 1;obtain ⟨a',c',hv',hsa,hsb⟩:=(hown.sl qDg).shape;clear hsa hsb;have hlen:(l ++ [(⟨now,body⟩:Msg)]).length=n + 1:=by simp [HNN.out]
   rw [hlen] at hv';have HLEN:=hU hlen;subst hv';clear hrun hown h0 h1 h2 hb q0 q1 q2 q3 hz hlen;go_in
   repeat' (first
    |(at_builtin;refine cV _ rfl _ _ _ _ rfl _ _ rfl rfl _ _ HRUN.out ?_)
    |go_values|go_skip|go_guarded|refine wg ?_|go_step|go_upon)
   (apply bodyPost_ret;(simp only [results,results150];go_simp;exact rfl);rfl)
   refine ⟨⟨a',c',⟨l ++ [⟨now,body⟩],lost⟩⟩,0,?_,?_,?_,?_⟩
   · unfold aX;dsimp only;rw [HLEN.out]
   · unfold tU;dsimp only;rw [if_neg c1];rw [if_neg c2,if_pos (by rw [HNN.out];exact c3)]
   · unfold lG;dsimp only;rw [HLEN.out];refine HSL.out.stay (fun k c hc=> ?_);have n1:=eS hc H1.out (by decide);have n2:=eS hc H2.out (by decide);simp only [heap_set n1,heap_set n2]
   · have hbl:=HB1.out;exact bel
 · have hw:IntKind.i64.wrap (lost + 1)=lost + 1:=by rw [IntKind.wrap_i64];omega
   go_in;refine sg ?_;intros;(apply bodyPost_ret;(simp only [results,results150];go_simp;exact rfl);rfl)
   refine ⟨⟨a,c,l,lost + 1⟩,0,?_,?_,HX.out.below bel,bel⟩
   · unfold aX;dsimp only;rw [HNN.out]
   · unfold tU;dsimp only;rw [if_neg c1,if_neg c2,if_neg (by rw [HNN.out];exact c3)]
