/- A seat in plain Lean: a partition at work, as package seat tells it; what stays right and small of it. Conditions: as told. -/
import Derived.Test.YtfncknignkndiaaGreatDoorGGood
import Derived.Test.YtfncknignkndiaaGreatDoorGAB
set_option linter.unusedVariables false
set_option maxRecDepth 100000
set_option maxHeartbeats 8000000
set_option linter.unusedSimpArgs false
namespace Go.Proofs.YtfncknignkndiaaGreatDoor
open Tryz
namespace Kn
structure Part where
 mem:Int
 a1:Int
 a2:Int
 a3:Int
def Part.cells (x:Part):Array Value:=#[.int .i64 x.mem,.int .i64 x.a1,.int .i64 x.a2,.int .i64 x.a3]
structure dU where
 k:aI
 st:Int
 boots:Int
def Part.act (x:Part) (gone:Int):Int:=if gone=1 then x.a1 else if gone=2 then x.a2 else if gone=3 then x.a3 else 0
def reset (mem:Int) (k:aI):aI:={eK mem k.images k.outs k.ins_ k.now with box:=k.box,cons:=k.cons,trace:=k.trace,sent:=k.sent,want:=k.want}
def jC (x:Part) (s:dU):dU:=
 if s.k.gone=0∨s.st=3 then s else
 if x.act s.k.gone=2 then {s with st:=3} else
 if x.act s.k.gone=3 then {s with k:=reset x.mem s.k,boots:=s.boots + 1} else s
def jP (x:Part) (images:List ByteArray) (outs ins:List cS):dU:=jC x ⟨eK x.mem images outs ins 0,1,1⟩
def oS (s:dU):dU:=⟨step s.k,if (step s.k).want=1 then 2 else if (step s.k).want=2 then 3 else s.st,s.boots⟩
def cP (x:Part) (s:dU):dU:=if s.st=1 then jC x (oS s) else s
def fP (s:dU):dU:=if s.st=2 then {s with st:=1} else s
def fX (s:dU) (n:Int) (body:ByteArray):dU:={s with k:=dI s.k n body s.k.now}
structure oZ (x:Part):Prop where
 m0: -9223372036854775808≤x.mem
 m1:x.mem≤9223372036854775807
theorem Good.reset {n:Nat} {k:aI} (h:Good n k) {mem:Int} (m0: -9223372036854775808≤mem) (m1:mem≤9223372036854775807):Good n (reset mem k):=by
 have hb:=qCj mem k.images k.outs k.ins_ k.now h.im h.il h.now0 h.now1 m0 m1;obtain ⟨e1,e2,e3,_,_,e5,_,_,_,e9⟩:=iH mem k.images k.outs k.ins_ k.now;refine ⟨hb.inv.same rfl rfl rfl rfl rfl rfl,hb.life,h.tr,h.co,h.se,fun q hq=> ?_,h.bl,?_,?_,h.bn,h.bd,?_,?_,hb.hs0,hb.hs1⟩
 · have:=e9 q hq
   omega
 · show (eK mem k.images k.outs k.ins_ k.now).ins_.length≤100
   rw [e3];exact h.il
 · show (eK mem k.images k.outs k.ins_ k.now).images.length≤100
   rw [e2];exact h.im
 · show 0≤(eK mem k.images k.outs k.ins_ k.now).now
   rw [e1];exact h.now0
 · show (eK mem k.images k.outs k.ins_ k.now).now≤_
   rw [e1];exact h.now1
theorem xJ (mem:Int) (k:aI):(reset mem k).now=k.now:=(iH mem k.images k.outs k.ins_ k.now).1
structure iV (n:Nat) (s:dU):Prop where
 k:Good n s.k
 s1:1≤s.st
 s3:s.st≤3
 b1:1≤s.boots
 b2:s.boots≤n + 2
 nw:s.k.now≤n
 ou:s.k.outs.length≤100
theorem iV.mono {n m:Nat} {s:dU} (h:iV n s) (hn:n≤m):iV m s:=⟨h.k.mono hn,h.s1,h.s3,h.b1,by have:=h.b2;omega,by have:=h.nw;omega,h.ou⟩
theorem qBa (mem:Int) (k:aI):(reset mem k).outs=k.outs:=by
 obtain ⟨_,_,_,h,_⟩:=iH mem k.images k.outs k.ins_ k.now;exact h
theorem zA {n:Nat} {x:Part} {s:dU} (hx:oZ x) (hk:Good n s.k) (s1:1≤s.st) (s3:s.st≤3) (b1:1≤s.boots) (b2:s.boots≤n + 1) (nw:s.k.now≤n) (ou:s.k.outs.length≤100):iV n (jC x s):=by
 unfold jC;split
 · exact ⟨hk,s1,s3,b1,by omega,nw,ou⟩
 · split
   · exact ⟨hk,(show (1:Int)≤3 by decide),(show (3:Int)≤3 by decide),b1,by show s.boots≤_;omega,nw,ou⟩
   · split
     · exact ⟨hk.reset hx.m0 hx.m1,s1,s3,by show 1≤s.boots + 1;omega,by show s.boots + 1≤_;omega,by show (reset x.mem s.k).now≤_;rw [xJ];exact nw,by show (reset x.mem s.k).outs.length≤_;rw [qBa];exact ou⟩
     · exact ⟨hk,s1,s3,b1,by omega,nw,ou⟩
theorem qEv {n:Nat} {k:aI} (h:Good n k) (hn:k.now≤n) (hb:n≤1000000):(step k).now=k.now + 1:=by
 rw [qQf h.inv h.life];unfold til;have:=h.now0
 omega
theorem qDf {n:Nat} {k:aI} (h:Good n k):(step k).outs=k.outs:=by
 obtain ⟨_,_,k2,ht,he⟩:=h.inv.step h.life;rw [he];exact ht.ou
theorem xS (k:aI) (j:Int) (body:ByteArray) (at_:Int):(dI k j body at_).outs=k.outs∧(dI k j body at_).trace=k.trace∧(dI k j body at_).cons=k.cons:=by
 unfold dI;split
 · exact ⟨rfl,rfl,rfl⟩
 · split <;> exact ⟨rfl,rfl,rfl⟩
theorem iV.nP {n:Nat} {x:Part} {s:dU} (h:iV n s) (hx:oZ x) (hb:n≤1000000):iV (n + 1) (cP x s):=by
 unfold cP;split
 · have hn:=qEv h.k h.nw hb;have h1:=h.s1;have h3:=h.s3;refine zA hx h.k.step ?_ ?_ h.b1 (by have:=h.b2;show s.boots≤_;omega) (by have:=h.nw;show (step s.k).now≤_;omega) (by show (step s.k).outs.length≤_;rw [qDf h.k];exact h.ou)
   · show 1≤(if (step s.k).want=1 then 2 else if (step s.k).want=2 then 3 else s.st:Int)
     split
     · decide
     · split
       · decide
       · exact h1
   · show (if (step s.k).want=1 then 2 else if (step s.k).want=2 then 3 else s.st:Int)≤3
     split
     · decide
     · split
       · decide
       · exact h3
 · exact h.mono (Nat.le_succ n)
theorem iV.qBp {n:Nat} {s:dU} (h:iV n s):iV n (fP s):=by
 unfold fP;split
 · exact ⟨h.k,(show (1:Int)≤1 by decide),(show (1:Int)≤3 by decide),h.b1,h.b2,h.nw,h.ou⟩
 · exact h
theorem iV.dI {n:Nat} {s:dU} (h:iV n s) (j:Int) (body:ByteArray) (hb:body.size≤140737488355328):iV (n + 1) (fX s j body):=by
 have:=h.b2
 have:=h.nw
 exact ⟨h.k.dI j body s.k.now hb,h.s1,h.s3,h.b1,by show s.boots≤_;omega,by show (Kn.dI s.k j body s.k.now).now≤_;rw [qAh];omega,by show (Kn.dI s.k j body s.k.now).outs.length≤_;rw [(xS _ _ _ _).1];exact h.ou⟩
structure qUa where
 kind:Int
 n:Int
 body:ByteArray
def qUa.cells (a:qUa):Array Value:=#[.int .i64 a.kind,.int .i64 a.n,.string a.body]
structure qNt where
 x:Part
 images:List ByteArray
 outs:List cS
 ins_:List cS
structure qNu (g:qNt):Prop where
 im:g.images.length≤8
 ou:g.outs.length≤8
 ins_:g.ins_.length≤8
 x:oZ g.x
theorem xZ {g:qNt} (hg:qNu g):iV 0 (jP g.x g.images g.outs g.ins_):=by
 have hb:=qCj g.x.mem g.images g.outs g.ins_ 0 (by have:=hg.im;omega) (by have:=hg.ins_;omega) (Int.le_refl _) (by decide) hg.x.m0 hg.x.m1;refine zA hg.x hb (show (1:Int)≤1 by decide) (show (1:Int)≤3 by decide) (show (1:Int)≤1 by decide) (show (1:Int)≤((0:Nat):Int) + 1 by decide) ?_ ?_
 · show (eK g.x.mem g.images g.outs g.ins_ 0).now≤_
   rw [(iH g.x.mem g.images g.outs g.ins_ 0).1];decide
 · show (eK g.x.mem g.images g.outs g.ins_ 0).outs.length≤_
   obtain ⟨_,_,_,h,_⟩:=iH g.x.mem g.images g.outs g.ins_ 0;rw [h];have:=hg.ou
   omega
theorem qIo (x:Part) (s:dU):(jC x s).k.now=s.k.now:=by
 unfold jC;split
 · rfl
 · split
   · rfl
   · split
     · exact xJ _ _
     · rfl
theorem qXk {n:Nat} {x:Part} {s:dU} (h:iV n s) (hb:n≤1000000) (h1:s.st=1):(cP x s).k.now=s.k.now + 1:=by
 unfold cP;rw [if_pos h1,qIo];exact qEv h.k h.nw hb
theorem qTj {x:Part} {s:dU} (h:s.st ≠ 1):cP x s=s:=if_neg h
theorem qQu {s:dU} (h:s.st ≠ 2):fP s=s:=if_neg h
end Kn
end Go.Proofs.YtfncknignkndiaaGreatDoor
namespace Go.Proofs.YtfncknignkndiaaGreatDoor
open Tryz
open Go.RowKit KR RegT3
namespace Kn
theorem nO:Agg prog 76 4:=gD underlying76 rfl (by kernel_rfl)
theorem dN:Agg prog 67 19:=gD underlying67 rfl (by kernel_rfl)
def aY (y:Lay) (s:dU):Array Value:=#[y.p,y.t,.int .i64 s.k.t.left,y.s,y.pi,.int .i64 s.k.hs,y.h,.int .u64 s.k.now,y.im,y.ou,y.ins_,y.bx,.string s.k.cons,y.tr,y.se,.int .i64 s.k.want,.int .i64 s.k.gone,.int .i64 s.st,.int .i64 s.boots]
def cK (y:Lay) (s:dU) (x:Part):Array Value:=#[y.p,y.t,.int .i64 s.k.t.left,y.s,y.pi,.int .i64 s.k.hs,y.h,.int .u64 s.k.now,y.im,y.ou,y.ins_,y.bx,.string s.k.cons,y.tr,y.se,.int .i64 s.k.want,.int .i64 s.k.gone,.int .i64 s.st,.int .i64 s.boots,.int .i64 x.mem,.int .i64 x.a1,.int .i64 x.a2,.int .i64 x.a3]
theorem zI (y:Lay) (s:dU) (x:Part):(cK y s x).extract 0 (0 + 17)=aJ y s.k:=by
 unfold cK aJ;simp
theorem zJ (y:Lay) (s:dU) (x:Part):(cK y s x).extract 0 (0 + 19)=aY y s:=by
 unfold cK aY;simp
theorem qGu (y:Lay) (s:dU):(aY y s).extract 0 (0 + 17)=aJ y s.k:=by
 unfold aY aJ;simp
def xP (W:World) (v:Value) (s:dU):Prop:=∃ y bs,v=.agg (aY y s)∧aH W y bs s.k
def qDm (s:dU) (w:World) (e:Ending) (w':World):Prop:=∃ v,e=.returned v∧xP w' v s∧Below w.heap.size w w'
theorem xP.below {W W':World} {v:Value} {s:dU} (h:xP W v s) (hb:Below W.heap.size W W'):xP W' v s:=by
 obtain ⟨y,bs,rfl,hl⟩:=h;exact ⟨y,bs,rfl,hl.below hb⟩
theorem sP {W:World} {y:Lay} {bs:List fY} {s:dU} (h:aH W y bs s.k):∀ u ∈ (Value.agg (aY y s)).cells.toList,u.oneCell'=true:=by
 intro u hu;have hk:=nS h;simp only [Value.cells,aJ,aY,List.mem_cons,List.not_mem_nil,or_false] at hu hk;rcases hu with rfl|rfl|rfl|rfl|rfl|rfl|rfl|rfl|rfl|rfl|rfl|rfl|rfl|rfl|rfl|rfl|rfl|rfl|rfl <;> first|rfl|exact hk _ (by simp)
theorem qGj (x:Part):∀ u ∈ (Value.agg x.cells).cells.toList,u.oneCell'=true:=by
 intro u hu;simp only [Value.cells,Part.cells,List.mem_cons,List.not_mem_nil,or_false] at hu;rcases hu with rfl|rfl|rfl|rfl <;> rfl
theorem pH:lX 67:=by decide
theorem eW:lX 186:=by decide
def qB (b:Nat) (x:Part) (s:dU) (w:World) (e:Ending) (w':World):Prop:=(∃ v,e=.returned v)∧(∃ y bs,w'.heap[b]? =some (.cells (cK y s x) 186 (0,0))∧aH w' y bs s.k)∧KR.Kept b w w'
theorem qAe (yk:Lay) (s:dU) (x:Part) {j:Nat} (hj:j<3):(cK yk s x)[20 + j]? =some (.int .i64 (x.act ((j:Int) + 1))):=by
 rcases (by omega:j=0∨j=1∨j=2) with rfl|rfl|rfl <;> rfl
theorem qRp (b:Nat) (x:Part) (s:dU) (w:World) (yk:Lay) (bs:List fY) (hk0:w.heap[b]? =some (.cells (cK yk s x) 186 (0,0))) (hl:aH w yk bs s.k) (h0:s.k.gone=0):
 Calls prog 99 #[.pointer (some ⟨b,0,none⟩)] w (qB b x s w):=by
 have K0:Hid (w.heap[b]? =some (.cells (cK yk s x) 186 (0,0))):=hU hk0;have E0:Hid (KR.Kept b w w):=hU (KR.Kept.refl b w);have L0:=hU hl;have hz0:=Nat.le_refl w.heap.size;have hzK:=hlt hk0;have f16:w.cell? ⟨b,16,none⟩=some (.int .i64 s.k.gone):=aC K0.out 16;have f17:w.cell? ⟨b,17,none⟩=some (.int .i64 s.st):=aC K0.out 17;have b1:(s.k.gone==0)=true:=by simp [h0]
 clear h0;clear hk0 hl;go_in;refine sg ?_;intros;go_end0
 exact ⟨⟨_,rfl⟩,⟨_,_,K0.out,L0.out⟩,E0.out⟩
theorem qRq (b:Nat) (x:Part) (s:dU) (w:World) (yk:Lay) (bs:List fY) (hk0:w.heap[b]? =some (.cells (cK yk s x) 186 (0,0))) (hl:aH w yk bs s.k) (h0:s.k.gone ≠ 0) (h3:s.st=3):
 Calls prog 99 #[.pointer (some ⟨b,0,none⟩)] w (qB b x s w):=by
 have K0:Hid (w.heap[b]? =some (.cells (cK yk s x) 186 (0,0))):=hU hk0;have E0:Hid (KR.Kept b w w):=hU (KR.Kept.refl b w);have L0:=hU hl;have hz0:=Nat.le_refl w.heap.size;have hzK:=hlt hk0;have f16:w.cell? ⟨b,16,none⟩=some (.int .i64 s.k.gone):=aC K0.out 16;have f17:w.cell? ⟨b,17,none⟩=some (.int .i64 s.st):=aC K0.out 17;have b1:(s.k.gone==0)=false:=by simp [h0]
 have b2:(s.st==3)=true:=by simp [h3]
 clear h0 h3;clear hk0 hl;go_in;refine sg ?_;intros;go_end0
 exact ⟨⟨_,rfl⟩,⟨_,_,K0.out,L0.out⟩,E0.out⟩
theorem qRr (b:Nat) (x:Part) (s:dU) (w:World) (yk:Lay) (bs:List fY) (hk0:w.heap[b]? =some (.cells (cK yk s x) 186 (0,0))) (hl:aH w yk bs s.k) (h0:s.k.gone ≠ 0) (h3:s.st ≠ 3) (h1:s.k.gone<1):
 Calls prog 99 #[.pointer (some ⟨b,0,none⟩)] w (qB b x s w):=by
 have K0:Hid (w.heap[b]? =some (.cells (cK yk s x) 186 (0,0))):=hU hk0;have E0:Hid (KR.Kept b w w):=hU (KR.Kept.refl b w);have L0:=hU hl;have hz0:=Nat.le_refl w.heap.size;have hzK:=hlt hk0;have f16:w.cell? ⟨b,16,none⟩=some (.int .i64 s.k.gone):=aC K0.out 16;have f17:w.cell? ⟨b,17,none⟩=some (.int .i64 s.st):=aC K0.out 17;have b1:(s.k.gone==0)=false:=by simp [h0]
 have b2:(s.st==3)=false:=by simp [h3]
 have b3:decide (1≤s.k.gone)=false:=by simp;omega
 clear h0 h3 h1;clear hk0 hl;go_in;refine sg ?_;intros;go_end0
 exact ⟨⟨_,rfl⟩,⟨_,_,K0.out,L0.out⟩,E0.out⟩
theorem qRs (b:Nat) (x:Part) (s:dU) (w:World) (yk:Lay) (bs:List fY) (hk0:w.heap[b]? =some (.cells (cK yk s x) 186 (0,0))) (hl:aH w yk bs s.k) (h0:s.k.gone ≠ 0) (h3:s.st ≠ 3) (h1:3<s.k.gone):
 Calls prog 99 #[.pointer (some ⟨b,0,none⟩)] w (qB b x s w):=by
 have K0:Hid (w.heap[b]? =some (.cells (cK yk s x) 186 (0,0))):=hU hk0;have E0:Hid (KR.Kept b w w):=hU (KR.Kept.refl b w);have L0:=hU hl;have hz0:=Nat.le_refl w.heap.size;have hzK:=hlt hk0;have f16:w.cell? ⟨b,16,none⟩=some (.int .i64 s.k.gone):=aC K0.out 16;have f17:w.cell? ⟨b,17,none⟩=some (.int .i64 s.st):=aC K0.out 17;have b1:(s.k.gone==0)=false:=by simp [h0]
 have b2:(s.st==3)=false:=by simp [h3]
 have b3:decide (1≤s.k.gone)=true:=by simp;omega
 have b4:decide (s.k.gone≤3)=false:=by simp;omega
 clear h0 h3 h1;clear hk0 hl;go_in;refine sg ?_;intros;go_end0
 exact ⟨⟨_,rfl⟩,⟨_,_,K0.out,L0.out⟩,E0.out⟩
theorem qRt (b:Nat) (x:Part) (s:dU) (w:World) (yk:Lay) (bs:List fY) (hk0:w.heap[b]? =some (.cells (cK yk s x) 186 (0,0))) (hl:aH w yk bs s.k) (j:Nat) (hj:s.k.gone=(j:Int) + 1) (hj3:j<3) (h3:s.st ≠ 3) (a:Int) (ha:x.act s.k.gone=a) (h4:a ≠ 2) (h5:a ≠ 3):
 Calls prog 99 #[.pointer (some ⟨b,0,none⟩)] w (qB b x s w):=by
 have K0:Hid (w.heap[b]? =some (.cells (cK yk s x) 186 (0,0))):=hU hk0;have E0:Hid (KR.Kept b w w):=hU (KR.Kept.refl b w);have L0:=hU hl;have hz0:=Nat.le_refl w.heap.size;have hzK:=hlt hk0;have f16:w.cell? ⟨b,16,none⟩=some (.int .i64 s.k.gone):=aC K0.out 16;have f17:w.cell? ⟨b,17,none⟩=some (.int .i64 s.st):=aC K0.out 17;have b1:(s.k.gone==0)=false:=by simp;omega
 have b2:(s.st==3)=false:=by simp [h3]
 have b3:decide (1≤s.k.gone)=true:=by simp;omega
 have b4:decide (s.k.gone≤3)=true:=by simp;omega
 have hw:IntKind.i64.wrap (s.k.gone - 1)=(j:Int):=by rw [IntKind.wrap_i64];omega
 have CA:Hid (∀ W:World,W.heap[b]? =some (.cells (cK yk s x) 186 (0,0))→W.cell? ⟨b,20 + j,none⟩=some (.int .i64 a)):=hU (fun W h=> by rw [aC h,qAe yk s x hj3,← hj,ha]);have hi0:(0:Int)≤(j:Int):=by omega
 have hi3:(j:Int)<3:=by omega
 have b5:(a==2)=false:=by simp [h4]
 have b6:(a==3)=false:=by simp [h5]
 clear h4 h5;clear hj ha h3 hk0 hl;go_in;refine sg ?_;intros;refine wp_region_noPanic ?_;refine go0 (S:=fun W=> (W.cell? ⟨b,16,none⟩=some (.int .i64 s.k.gone))∧(W.cell? ⟨b,20 + j,none⟩=some (.int .i64 a))) [] (⟨aC K0.out 16,CA.out _ K0.out⟩) fun hS=> ?_;obtain ⟨W1,hWd⟩:=exW w.drew;obtain ⟨K1,E1,L1⟩:=n3 (dW hWd) K0 E0 L0;rw [hWd] at hS ⊢;clear hWd;clear K0 E0 L0;refine ts [.p 0,.p 1,.p 2,.p 3,.p 4,.p 5,.l 6,.p 7,.p 8,.p 9,.p 10,.p 11,.l 12,.p 13] ?_;refine aZ (by kernel_rfl) (NoPanic.normal ?_) _;try clear hS
 repeat' (first|go_values|go_skip|go_guarded|refine wg ?_|go_step|go_upon)
 all_goals go_end0
 all_goals exact ⟨⟨_,rfl⟩,⟨_,_,K1.out,L1.out⟩,E1.out⟩
theorem qRu (b:Nat) (x:Part) (s:dU) (w:World) (yk:Lay) (bs:List fY) (hk0:w.heap[b]? =some (.cells (cK yk s x) 186 (0,0))) (hl:aH w yk bs s.k) (j:Nat) (hj:s.k.gone=(j:Int) + 1) (hj3:j<3) (h3:s.st ≠ 3) (a:Int) (ha:x.act s.k.gone=a) (h4:a=2):
 Calls prog 99 #[.pointer (some ⟨b,0,none⟩)] w (qB b x {s with st:=3} w):=by
 have K0:Hid (w.heap[b]? =some (.cells (cK yk s x) 186 (0,0))):=hU hk0;have E0:Hid (KR.Kept b w w):=hU (KR.Kept.refl b w);have L0:=hU hl;have hz0:=Nat.le_refl w.heap.size;have hzK:=hlt hk0;have f16:w.cell? ⟨b,16,none⟩=some (.int .i64 s.k.gone):=aC K0.out 16;have f17:w.cell? ⟨b,17,none⟩=some (.int .i64 s.st):=aC K0.out 17;have b1:(s.k.gone==0)=false:=by simp;omega
 have b2:(s.st==3)=false:=by simp [h3]
 have b3:decide (1≤s.k.gone)=true:=by simp;omega
 have b4:decide (s.k.gone≤3)=true:=by simp;omega
 have hw:IntKind.i64.wrap (s.k.gone - 1)=(j:Int):=by rw [IntKind.wrap_i64];omega
 have CA:Hid (∀ W:World,W.heap[b]? =some (.cells (cK yk s x) 186 (0,0))→W.cell? ⟨b,20 + j,none⟩=some (.int .i64 a)):=hU (fun W h=> by rw [aC h,qAe yk s x hj3,← hj,ha]);have hi0:(0:Int)≤(j:Int):=by omega
 have hi3:(j:Int)<3:=by omega
 have b5:(a==2)=true:=by simp [h4]
 clear h4;clear hj ha h3 hk0 hl;go_in;refine sg ?_;intros;refine wp_region_noPanic ?_;refine go0 (S:=fun W=> (W.cell? ⟨b,16,none⟩=some (.int .i64 s.k.gone))∧(W.cell? ⟨b,20 + j,none⟩=some (.int .i64 a))) [] (⟨aC K0.out 16,CA.out _ K0.out⟩) fun hS=> ?_;obtain ⟨W1,hWd⟩:=exW w.drew;obtain ⟨K1,E1,L1⟩:=n3 (dW hWd) K0 E0 L0;rw [hWd] at hS ⊢;clear hWd;clear K0 E0 L0;refine ts [.p 0,.p 1,.p 2,.p 3,.p 4,.p 5,.l 6,.p 7,.p 8,.p 9,.p 10,.p 11,.l 12,.p 13] ?_;refine aZ (by kernel_rfl) (NoPanic.normal ?_) _;try clear hS
 repeat' (first
  |(refine aP (t:=3) (v:=.int .i64 3) (off:=17) (new:=cK yk {s with st:=3} x) rfl rfl rfl rfl cO K1.out rfl rfl (show 17 + 1≤23 by decide) rfl ?_;intro W2 hp
    have L2:Hid (aH W2 yk bs s.k):=hU ((L1.out).put K1.out eW hp);have E2:=pK hp E1;have K2:Hid (W2.heap[b]? =some (.cells (cK yk {s with st:=3} x) 186 (0,0))):=pA hp;clear hp;clear K1 E1 L1)
  |go_values|go_skip|go_guarded|refine wg ?_|go_step|go_upon)
 go_end0
 exact ⟨⟨_,rfl⟩,⟨_,_,K2.out,L2.out⟩,E2.out⟩
theorem qRv (b:Nat) (x:Part) (s:dU) (w:World) (yk:Lay) (bs:List fY) (hk0:w.heap[b]? =some (.cells (cK yk s x) 186 (0,0))) (hl:aH w yk bs s.k) (j:Nat) (hj:s.k.gone=(j:Int) + 1) (hj3:j<3) (h3:s.st ≠ 3) (a:Int) (ha:x.act s.k.gone=a) (h4:a=3) (m0: -9223372036854775808≤x.mem) (m1:x.mem≤9223372036854775807) (g1:s.k.images.length≤8796093022207) (g2:s.k.outs.length≤1000000) (g3:s.k.ins_.length≤1000000) (o0:0≤s.boots) (o1:s.boots≤1000000000):
 Calls prog 99 #[.pointer (some ⟨b,0,none⟩)] w (qB b x {s with k:=reset x.mem s.k,boots:=s.boots + 1} w):=by
 have K0:Hid (w.heap[b]? =some (.cells (cK yk s x) 186 (0,0))):=hU hk0;have E0:Hid (KR.Kept b w w):=hU (KR.Kept.refl b w);have L0:=hU hl;have hz0:=Nat.le_refl w.heap.size;have hzK:=hlt hk0;have f16:w.cell? ⟨b,16,none⟩=some (.int .i64 s.k.gone):=aC K0.out 16;have f17:w.cell? ⟨b,17,none⟩=some (.int .i64 s.st):=aC K0.out 17;have b1:(s.k.gone==0)=false:=by simp;omega
 have b2:(s.st==3)=false:=by simp [h3]
 have b3:decide (1≤s.k.gone)=true:=by simp;omega
 have b4:decide (s.k.gone≤3)=true:=by simp;omega
 have hw:IntKind.i64.wrap (s.k.gone - 1)=(j:Int):=by rw [IntKind.wrap_i64];omega
 have CA:Hid (∀ W:World,W.heap[b]? =some (.cells (cK yk s x) 186 (0,0))→W.cell? ⟨b,20 + j,none⟩=some (.int .i64 a)):=hU (fun W h=> by rw [aC h,qAe yk s x hj3,← hj,ha]);have hi0:(0:Int)≤(j:Int):=by omega
 have hi3:(j:Int)<3:=by omega
 have b5:(a==2)=false:=by simp [h4]
 have b6:(a==3)=true:=by simp [h4]
 have hwb:IntKind.i64.wrap (s.boots + 1)=s.boots + 1:=by rw [IntKind.wrap_i64];omega
 clear h4;clear hj ha h3 hk0 hl;go_in;refine sg ?_;intros;refine wp_region_noPanic ?_;refine go0 (S:=fun W=> (W.cell? ⟨b,16,none⟩=some (.int .i64 s.k.gone))∧(W.cell? ⟨b,20 + j,none⟩=some (.int .i64 a))) [] (⟨aC K0.out 16,CA.out _ K0.out⟩) fun hS=> ?_;obtain ⟨W1,hWd⟩:=exW w.drew;obtain ⟨K1,E1,L1⟩:=n3 (dW hWd) K0 E0 L0;rw [hWd] at hS ⊢;clear hWd;clear K0 E0 L0;refine ts [.p 0,.p 1,.p 2,.p 3,.p 4,.p 5,.l 6,.p 7,.p 8,.p 9,.p 10,.p 11,.l 12,.p 13] ?_;refine aZ (by kernel_rfl) (NoPanic.normal ?_) _;try clear hS
 obtain ⟨abV,hab,hab1V⟩:=nb0 E1;have habKV:=nlt K1 hab;have HKL:=K1;obtain ⟨W2,hWn,hba,V2⟩:=nb1 (.cells zSe 41) hab;obtain ⟨K2,E2,L2⟩:=n3 hba K1 E1 L1;clear K1 E1 L1;clear hba
 repeat' (first
  |(rw [hWn,hab];clear hWn hab)
  |(refine aE (t:=41) (v:=.agg (aJ yk s.k)) rfl rfl rfl (cB cR HKL.out (zI _ _ _) rfl) ?_)
  |(refine sN 41 (.agg (aJ yk s.k)) 0 (aJ yk s.k) cR.size V2.out (nS L2.out) fun W3 hp=> ?_
    have E3:=pE hp E2;have L3:=pL hp V2 L2;have V3:=pA hp;have K3:=pT hp V2 K2;clear hp;clear K2 V2 E2 L2)
  |go_values|go_skip|go_guarded|refine wg ?_|go_step|go_upon)
 clear HKL;have LO3:=hU L3.out;refine wp_region_noPanic ?_;refine go0 (S:=fun W=> (W.cell? ⟨b,19,none⟩=some (.int .i64 x.mem))∧(W.cell? ⟨abV,8,none⟩=some yk.im)∧(W.cell? ⟨abV,9,none⟩=some yk.ou)∧(W.cell? ⟨abV,10,none⟩=some yk.ins_)∧(W.cell? ⟨abV,7,none⟩=some (.int .u64 s.k.now))) [18] (⟨aC K3.out 19,aC V3.out 8,aC V3.out 9,aC V3.out 10,aC V3.out 7⟩) fun hS=> ?_;obtain ⟨W4,hWd⟩:=exW W3.drew;obtain ⟨K4,V4,E4,L4⟩:=n4 (dW hWd) K3 V3 E3 L3;have LO4:=dL hWd LO3;rw [hWd] at hS ⊢;clear hWd;clear K3 V3 E3 L3 LO3;refine ts [.p 0,.p 1,.p 2,.p 3,.p 4,.l 5,.p 6,.l 7,.p 8,.l 9,.p 10,.l 11,.p 12,.l 13] ?_;refine ro 14 fun K hK=> ?_;refine want rfl ?_;go_simp;refine (qTz x.mem yk.im yk.ou yk.ins_ s.k.images s.k.outs s.k.ins_ s.k.now _ L4.out.im.rd L4.out.ou.rd L4.out.ins_.rd g1 g2 g3 m0 m1).mono ?_;rintro er W5 ⟨v2,rfl,⟨y2,bs2,rfl,hl2⟩,hb⟩;obtain ⟨K5,V5,E5,L5⟩:=n4 hb K4 V4 E4 L4;have LO5:=nL hb LO4;clear K4 V4 E4 L4 LO4;clear hb;dsimp only;try clear hS
 refine nx hK (⟨aC K5.out 19,aC V5.out 8,aC V5.out 9,aC V5.out 10,aC V5.out 7⟩) fun hS=> ?_;clear hK K;(try simp only [aF])
 refine ts [.p 15,.p 16,.p 17] ?_;clear L5;have L5:=hU hl2;clear hl2;refine ro 18 fun K hK=> ?_;refine want rfl ?_;refine cL (v:=.agg (aJ y2 (eK x.mem s.k.images s.k.outs s.k.ins_ s.k.now))) (off:=0) (new:=cK y2 {s with k:=(eK x.mem s.k.images s.k.outs s.k.ins_ s.k.now)} x) rfl rfl rfl cR.size K5.out rfl (show 0 + 17≤23 by decide) (nS L5.out) rfl ?_;intro W6 hp;have L6:Hid (aH W6 y2 bs2 (eK x.mem s.k.images s.k.outs s.k.ins_ s.k.now)):=hU ((L5.out).put K5.out eW hp);have E6:=pK hp E5;have K6:Hid (W6.heap[b]? =some (.cells (cK y2 {s with k:=(eK x.mem s.k.images s.k.outs s.k.ins_ s.k.now)} x) 186 (0,0))):=pA hp;have V6:=pT hp K5 V5;have LO6:=pL hp K5 LO5 eW;clear hp;clear K5 V5 E5 L5 LO5;refine nt hK ?_;clear hK K;try clear hS
 (try simp only [aF])
 refine aZ (by kernel_rfl) (NoPanic.normal ?_) _;try clear hS
 refine sg ?_;intros;refine wp_region_noPanic ?_;refine go0 (S:=fun W=> (W.cell? ⟨abV,11,none⟩=some yk.bx)∧(W.cell? ⟨abV,12,none⟩=some (.string s.k.cons))∧(W.cell? ⟨abV,13,none⟩=some yk.tr)∧(W.cell? ⟨abV,14,none⟩=some yk.se)∧(W.cell? ⟨abV,15,none⟩=some (.int .i64 s.k.want))) [] (⟨aC V6.out 11,aC V6.out 12,aC V6.out 13,aC V6.out 14,aC V6.out 15⟩) fun hS=> ?_;obtain ⟨W7,hWd⟩:=exW W6.drew;obtain ⟨K7,V7,E7,L7⟩:=n4 (dW hWd) K6 V6 E6 L6;have LO7:=dL hWd LO6;rw [hWd] at hS ⊢;clear hWd;clear K6 V6 E6 L6 LO6;refine ts [.p 0,.p 1,.p 2,.p 3,.p 4,.p 5,.l 6,.p 7,.l 8,.p 9,.l 10,.p 11,.l 12,.p 13,.l 14,.p 15,.p 16,.p 17,.p 18] ?_;refine ro 19 fun K hK=> ?_;refine want rfl ?_;refine fU (v:=yk.bx) (off:=11) (new:=cK {y2 with bx:=yk.bx} {s with k:={(eK x.mem s.k.images s.k.outs s.k.ins_ s.k.now) with box:=bs.map (fun q=> q.b)}} x) rfl rfl rfl qEg K7.out LO7.out.bx.jF LO7.out.bx.jW (show 11 + 1≤23 by decide) rfl ?_;intro W8 hp;have L8:Hid (aH W8 {y2 with bx:=yk.bx} bs {(eK x.mem s.k.images s.k.outs s.k.ins_ s.k.now) with box:=bs.map (fun q=> q.b)}):=hU ((L7.out.qZz LO7.out.bx LO7.out.ok).put K7.out eW hp);have E8:=pK hp E7;have K8:Hid (W8.heap[b]? =some (.cells (cK {y2 with bx:=yk.bx} {s with k:={(eK x.mem s.k.images s.k.outs s.k.ins_ s.k.now) with box:=bs.map (fun q=> q.b)}} x) 186 (0,0))):=pA hp;have V8:=pT hp K7 V7;have LO8:=pL hp K7 LO7 eW;clear hp;clear K7 V7 E7 L7 LO7;try clear hS
 refine nx hK (⟨aC V8.out 11,aC V8.out 12,aC V8.out 13,aC V8.out 14,aC V8.out 15⟩) fun hS=> ?_;clear hK K;(try simp only [aF])
 refine ts [.p 20,.p 21,.p 22,.p 23] ?_;refine ro 24 fun K hK=> ?_;refine want rfl ?_;refine fU (v:=.string s.k.cons) (off:=12) (new:=cK {y2 with bx:=yk.bx} {s with k:={(eK x.mem s.k.images s.k.outs s.k.ins_ s.k.now) with box:=bs.map (fun q=> q.b),cons:=s.k.cons}} x) rfl rfl rfl pI K8.out rfl rfl (show 12 + 1≤23 by decide) rfl ?_;intro W9 hp;have L9:Hid (aH W9 {y2 with bx:=yk.bx} bs {(eK x.mem s.k.images s.k.outs s.k.ins_ s.k.now) with box:=bs.map (fun q=> q.b),cons:=s.k.cons}):=hU ((L8.out.qKk s.k.cons).put K8.out eW hp);have E9:=pK hp E8;have K9:Hid (W9.heap[b]? =some (.cells (cK {y2 with bx:=yk.bx} {s with k:={(eK x.mem s.k.images s.k.outs s.k.ins_ s.k.now) with box:=bs.map (fun q=> q.b),cons:=s.k.cons}} x) 186 (0,0))):=pA hp;have V9:=pT hp K8 V8;have LO9:=pL hp K8 LO8 eW;clear hp;clear K8 V8 E8 L8 LO8;try clear hS
 refine nx hK (⟨aC V9.out 11,aC V9.out 12,aC V9.out 13,aC V9.out 14,aC V9.out 15⟩) fun hS=> ?_;clear hK K;(try simp only [aF])
 refine ts [.p 25,.p 26,.p 27,.p 28] ?_;refine ro 29 fun K hK=> ?_;refine want rfl ?_;refine fU (v:=yk.tr) (off:=13) (new:=cK {y2 with bx:=yk.bx,tr:=yk.tr} {s with k:={(eK x.mem s.k.images s.k.outs s.k.ins_ s.k.now) with box:=bs.map (fun q=> q.b),cons:=s.k.cons,trace:=s.k.trace}} x) rfl rfl rfl qPp K9.out LO9.out.tr.jF LO9.out.tr.jW (show 13 + 1≤23 by decide) rfl ?_;intro W10 hp;have L10:Hid (aH W10 {y2 with bx:=yk.bx,tr:=yk.tr} bs {(eK x.mem s.k.images s.k.outs s.k.ins_ s.k.now) with box:=bs.map (fun q=> q.b),cons:=s.k.cons,trace:=s.k.trace}):=hU ((L9.out.qUn LO9.out.tr).put K9.out eW hp);have E10:=pK hp E9;have K10:Hid (W10.heap[b]? =some (.cells (cK {y2 with bx:=yk.bx,tr:=yk.tr} {s with k:={(eK x.mem s.k.images s.k.outs s.k.ins_ s.k.now) with box:=bs.map (fun q=> q.b),cons:=s.k.cons,trace:=s.k.trace}} x) 186 (0,0))):=pA hp;have V10:=pT hp K9 V9;have LO10:=pL hp K9 LO9 eW;clear hp;clear K9 V9 E9 L9 LO9;try clear hS
 refine nx hK (⟨aC V10.out 11,aC V10.out 12,aC V10.out 13,aC V10.out 14,aC V10.out 15⟩) fun hS=> ?_;clear hK K;(try simp only [aF])
 refine ts [.p 30,.p 31,.p 32,.p 33] ?_;refine ro 34 fun K hK=> ?_;refine want rfl ?_;refine fU (v:=yk.se) (off:=14) (new:=cK {y2 with bx:=yk.bx,tr:=yk.tr,se:=yk.se} {s with k:={(eK x.mem s.k.images s.k.outs s.k.ins_ s.k.now) with box:=bs.map (fun q=> q.b),cons:=s.k.cons,trace:=s.k.trace,sent:=s.k.sent}} x) rfl rfl rfl zY K10.out LO10.out.se.jF LO10.out.se.jW (show 14 + 1≤23 by decide) rfl ?_;intro W11 hp;have L11:Hid (aH W11 {y2 with bx:=yk.bx,tr:=yk.tr,se:=yk.se} bs {(eK x.mem s.k.images s.k.outs s.k.ins_ s.k.now) with box:=bs.map (fun q=> q.b),cons:=s.k.cons,trace:=s.k.trace,sent:=s.k.sent}):=hU ((L10.out.qKm LO10.out.se).put K10.out eW hp);have E11:=pK hp E10;have K11:Hid (W11.heap[b]? =some (.cells (cK {y2 with bx:=yk.bx,tr:=yk.tr,se:=yk.se} {s with k:={(eK x.mem s.k.images s.k.outs s.k.ins_ s.k.now) with box:=bs.map (fun q=> q.b),cons:=s.k.cons,trace:=s.k.trace,sent:=s.k.sent}} x) 186 (0,0))):=pA hp;have V11:=pT hp K10 V10;have LO11:=pL hp K10 LO10 eW;clear hp;clear K10 V10 E10 L10 LO10;try clear hS
 refine nx hK (⟨aC V11.out 11,aC V11.out 12,aC V11.out 13,aC V11.out 14,aC V11.out 15⟩) fun hS=> ?_;clear hK K;(try simp only [aF])
 refine ts [.p 35,.p 36,.p 37,.p 38] ?_;refine ro 39 fun K hK=> ?_;refine want rfl ?_;refine fU (v:=.int .i64 s.k.want) (off:=15) (new:=cK {y2 with bx:=yk.bx,tr:=yk.tr,se:=yk.se} {s with k:={(eK x.mem s.k.images s.k.outs s.k.ins_ s.k.now) with box:=bs.map (fun q=> q.b),cons:=s.k.cons,trace:=s.k.trace,sent:=s.k.sent,want:=s.k.want}} x) rfl rfl rfl cO K11.out rfl rfl (show 15 + 1≤23 by decide) rfl ?_;intro W12 hp;have L12:Hid (aH W12 {y2 with bx:=yk.bx,tr:=yk.tr,se:=yk.se} bs {(eK x.mem s.k.images s.k.outs s.k.ins_ s.k.now) with box:=bs.map (fun q=> q.b),cons:=s.k.cons,trace:=s.k.trace,sent:=s.k.sent,want:=s.k.want}):=hU ((L11.out.pN s.k.want).put K11.out eW hp);have E12:=pK hp E11;have K12:Hid (W12.heap[b]? =some (.cells (cK {y2 with bx:=yk.bx,tr:=yk.tr,se:=yk.se} {s with k:={(eK x.mem s.k.images s.k.outs s.k.ins_ s.k.now) with box:=bs.map (fun q=> q.b),cons:=s.k.cons,trace:=s.k.trace,sent:=s.k.sent,want:=s.k.want}} x) 186 (0,0))):=pA hp;have V12:=pT hp K11 V11;have LO12:=pL hp K11 LO11 eW;clear hp;clear K11 V11 E11 L11 LO11;try clear hS
 refine nx hK (⟨aC V12.out 11,aC V12.out 12,aC V12.out 13,aC V12.out 14,aC V12.out 15⟩) fun hS=> ?_;clear hK K;(try simp only [aF])
 refine aZ (by kernel_rfl) (NoPanic.normal ?_) _;try clear hS
 have f18:W12.cell? ⟨b,18,none⟩=some (.int .i64 s.boots):=aC K12.out 18
 repeat' (first
  |(refine aP (t:=3) (v:=.int .i64 (s.boots + 1)) (off:=18) (new:=cK {y2 with bx:=yk.bx,tr:=yk.tr,se:=yk.se} {s with k:={(eK x.mem s.k.images s.k.outs s.k.ins_ s.k.now) with box:=bs.map (fun q=> q.b),cons:=s.k.cons,trace:=s.k.trace,sent:=s.k.sent,want:=s.k.want},boots:=s.boots + 1} x) rfl rfl rfl rfl cO K12.out rfl rfl (show 18 + 1≤23 by decide) rfl ?_;intro W13 hp
    have L13:Hid (aH W13 {y2 with bx:=yk.bx,tr:=yk.tr,se:=yk.se} bs {(eK x.mem s.k.images s.k.outs s.k.ins_ s.k.now) with box:=bs.map (fun q=> q.b),cons:=s.k.cons,trace:=s.k.trace,sent:=s.k.sent,want:=s.k.want}):=hU ((L12.out).put K12.out eW hp);have E13:=pK hp E12;have K13:Hid (W13.heap[b]? =some (.cells (cK {y2 with bx:=yk.bx,tr:=yk.tr,se:=yk.se} {s with k:={(eK x.mem s.k.images s.k.outs s.k.ins_ s.k.now) with box:=bs.map (fun q=> q.b),cons:=s.k.cons,trace:=s.k.trace,sent:=s.k.sent,want:=s.k.want},boots:=s.boots + 1} x) 186 (0,0))):=pA hp;have V13:=pT hp K12 V12;have LO13:=pL hp K12 LO12 eW;clear hp;clear K12 V12 E12 L12 LO12)
  |go_values|go_skip|go_guarded|refine wg ?_|go_step|go_upon)
 go_end0
 have hbse:bs.map (fun q=> q.b)=s.k.box:=LO13.out.bse;have hk:=K13.out;have hl:=L13.out;rw [hbse] at hk hl;exact ⟨⟨_,rfl⟩,⟨_,_,hk,hl⟩,E13.out⟩
theorem qOh (b:Nat) (x:Part) (s:dU) (w:World) (y:Lay) (bs:List fY) (hk0:w.heap[b]? =some (.cells (cK y s x) 186 (0,0))) (hl:aH w y bs s.k) (m0: -9223372036854775808≤x.mem) (m1:x.mem≤9223372036854775807) (g1:s.k.images.length≤8796093022207) (g2:s.k.outs.length≤1000000) (g3:s.k.ins_.length≤1000000) (o0:0≤s.boots) (o1:s.boots≤1000000000):
 Calls prog 99 #[.pointer (some ⟨b,0,none⟩)] w (qB b x (jC x s) w):=by
 unfold jC;by_cases h0:s.k.gone=0
 · rw [if_pos (.inl h0)];exact qRp b x s w y bs hk0 hl h0
 by_cases h3:s.st=3
 · rw [if_pos (.inr h3)];exact qRq b x s w y bs hk0 hl h0 h3
 rw [if_neg (by omega)]
 have hact:¬ (1≤s.k.gone∧s.k.gone≤3)→x.act s.k.gone=0:=fun h=> by
  unfold Part.act;rw [if_neg (by omega),if_neg (by omega),if_neg (by omega)]
 by_cases h1:s.k.gone<1
 · rw [hact (by omega),if_neg (by decide),if_neg (by decide)];exact qRr b x s w y bs hk0 hl h0 h3 h1
 by_cases h2:3<s.k.gone
 · rw [hact (by omega),if_neg (by decide),if_neg (by decide)];exact qRs b x s w y bs hk0 hl h0 h3 h2
 obtain ⟨j,hj⟩:∃ j:Nat,s.k.gone=(j:Int) + 1:=⟨(s.k.gone - 1).toNat,by omega⟩
 by_cases h4:x.act s.k.gone=2
 · rw [if_pos h4];exact qRu b x s w y bs hk0 hl j hj (by omega) h3 _ h4 rfl
 rw [if_neg h4];by_cases h5:x.act s.k.gone=3
 · rw [if_pos h5];exact qRv b x s w y bs hk0 hl j hj (by omega) h3 _ h5 rfl m0 m1 g1 g2 g3 o0 o1
 · rw [if_neg h5];exact qRt b x s w y bs hk0 hl j hj (by omega) h3 _ rfl h4 h5
theorem qVn (x:Part) (iv ov nv:Value) (images:List ByteArray) (outs ins_:List cS) (w:World) (hi:Rd 1 strCells w iv images) (ho:Rd 5 cS.cells w ov outs) (hn:Rd 5 cS.cells w nv ins_) (h1:images.length≤8796093022207) (h2:outs.length≤1000000) (h3:ins_.length≤1000000) (m0: -9223372036854775808≤x.mem) (m1:x.mem≤9223372036854775807):
 Calls prog 44 #[.agg x.cells,iv,ov,nv] w (qDm (jP x images outs ins_) w):=by
 obtain ⟨q0,q1⟩:=eF w w.heap.size (.cells x.cells 76) (.cells zKe 67) rfl;have hb0:Below w.heap.size w ((w.alloc (.cells x.cells 76)).alloc (.cells zKe 67)):=bel;obtain ⟨W0,hW0⟩:=exW ((w.alloc (.cells x.cells 76)).alloc (.cells zKe 67));rw [hW0] at q0 q1 hb0;have A0:=hU q0;have R0:=hU q1;have B0:=hU hb0;have e4:=fun W (h:Below w.heap.size w W)=> qTz x.mem iv ov nv images outs ins_ 0 W (hi.below h) (ho.below h) (hn.below h) h1 h2 h3 m0 m1;have HST:=hU e4;obtain ⟨f1,f2,f3,_⟩:=iH x.mem images outs ins_ 0;obtain ⟨_,_,_,f4,_⟩:=iH x.mem images outs ins_ 0;have f0:W0.cell? ⟨w.heap.size,0,none⟩=some (.int .i64 x.mem):=aC A0.out 0;clear q0 q1 hb0 e4;go_in;repeat' (first|(rw [hW0];clear hW0)|go_values|go_skip|go_guarded|refine wg ?_|go_step|go_upon)
 refine wp_region_noPanic ?_;refine go0 (S:=fun W=> W.heap[w.heap.size]? =some (.cells x.cells 76 (0,0))∧W.cell? ⟨w.heap.size,0,none⟩=some (.int .i64 x.mem)) [] (⟨A0.out,f0⟩) fun hS=> ?_;have HA_d:Hid (W0.drew.heap[w.heap.size]? =some (.cells x.cells 76 (0,0))):=hU A0.out;have HR_d:Hid (W0.drew.heap[w.heap.size + 1]? =some (.cells zKe 67 (0,0))):=hU R0.out;have HB_d:=hU B0.out.drew;clear A0 R0 B0 f0;refine ts [.p 0,.l 1,.p 2,.p 3,.p 4] ?_;refine tv 7 (.agg x.cells) (fun W hSW=> aR rfl rfl (aD nO hSW.1 rfl)) ?_;(try simp only [aF])
 refine ro 5 fun K hK=> ?_;refine want rfl ?_;go_simp;refine (HST.out _ HB_d.out).mono ?_;rintro er W1 ⟨v1,rfl,⟨y1,bs1,rfl,hl1⟩,hb1⟩;have A1:=nB hb1 HA_d;have R1:=nB hb1 HR_d;have B1:=hU (HB_d.out.trans (hb1.mono HB_d.out.size));have L1:=hU hl1;clear hb1 hl1 HA_d HR_d HB_d HST;dsimp only;try clear hS
 refine nx hK (⟨A1.out,aC A1.out 0⟩) fun hS=> ?_;clear hK K;(try simp only [aF])
 refine tv 6 (.agg (aY y1 ⟨(eK x.mem images outs ins_ 0),1,1⟩)) (fun W hSW=> by kernel_rfl) ?_ (hi:=rfl);(try simp only [aF])
 refine tv 8 (.agg (cK y1 ⟨(eK x.mem images outs ins_ 0),1,1⟩ x)) (fun W hSW=> by kernel_rfl) ?_ (hi:=rfl);(try simp only [aF])
 refine ro 9 fun K hK=> ?_;go_simp;obtain ⟨b,hab,hbb⟩:∃ b,W1.heap.size=b∧w.heap.size + 1<b:=⟨_,rfl,hlt R1.out⟩
 obtain ⟨W2,hWn,hba,K2⟩:=nb1 (.cells (cK y1 ⟨(eK x.mem images outs ins_ 0),1,1⟩ x) 186) hab;rw [hWn,hab];have R2:=nB hba R1;have L2:Hid (aH W2 y1 bs1 (dU.mk (eK x.mem images outs ins_ 0) 1 1).k):=nL hba L1;have B2:=hU (B1.out.trans (hba.mono B1.out.size));have A2:=nB hba A1;clear hba hWn hab R1 L1 B1 A1;try clear hS
 refine nx hK (⟨A2.out,aC A2.out 0⟩) fun hS=> ?_;clear hK K A2;(try simp only [aF])
 refine tp 10 ?_;try simp only [aF]
 refine aZ (by kernel_rfl) (NoPanic.normal ?_) _;try clear hS
 have E2:Hid (KR.Kept b w W2):=hU (Kept.of B2.out);refine sg ?_;intros;have e5:=qOh b x ⟨(eK x.mem images outs ins_ 0),1,1⟩ W2 y1 bs1 K2.out L2.out m0 m1 (by rw [show (dU.mk (eK x.mem images outs ins_ 0) 1 1).k.images=images from f2];exact h1) (by rw [show (dU.mk (eK x.mem images outs ins_ 0) 1 1).k.outs=outs from f4];exact h2) (by rw [show (dU.mk (eK x.mem images outs ins_ 0) 1 1).k.ins_=ins_ from f3];exact h3) (show (0:Int)≤1 by decide) (show (1:Int)≤1000000000 by decide);have hsb:jC x ⟨(eK x.mem images outs ins_ 0),1,1⟩=jP x images outs ins_:=rfl;rw [hsb] at e5;refine e5.mono ?_;rintro er W3 ⟨⟨vr,rfl⟩,⟨y3,bs3,hk3,hl3⟩,hke⟩;have R3:=mB hke R2;have E3:=mE hke E2;have K3:=hU hk3;have L3:=hU hl3;have B3:=hU (Kept.low E3.out (by omega));clear hke hk3 hl3 R2 E2 K2 L2 B2 e5;dsimp only
 repeat' (first
  |(refine aE (t:=67) (v:=.agg (aY y3 (jP x images outs ins_))) rfl rfl rfl (cB dN K3.out (zJ _ _ _) rfl) ?_)
  |(refine sN 67 (.agg (aY y3 (jP x images outs ins_))) 0 (aY y3 (jP x images outs ins_)) dN.size R3.out (sP L3.out) fun W4 hp=> ?_
    have R4:=pA hp;have L4:=pL hp R3 L3 pH;have B4:=hU (Below.put B3.out hp (by omega));clear hp R3 L3 B3)
  |go_values|go_skip|go_guarded|refine wg ?_|go_step|go_upon)
 (try simp only [Exit.inBlock,Exit.then]);refine bodyPost_ret (cJ results44 dN rfl R4.out rfl) rfl ?_
 exact ⟨_,rfl,⟨_,_,rfl,L4.out⟩,B4.out⟩
end Kn
end Go.Proofs.YtfncknignkndiaaGreatDoor
namespace Go.Proofs.YtfncknignkndiaaGreatDoor
open Tryz
open Go.RowKit KR
namespace Kn
theorem nbz {n:Nat} {w W:World} (h:Hid (Below n w W)):∃ m,W.heap.size=m∧w.heap.size≤m:=⟨_,rfl,h.out.size⟩
theorem nW {w W W':World} (hb:Below W.heap.size W W') (h:Hid (Below w.heap.size w W)):Hid (Below w.heap.size w W'):=hU (h.out.trans (hb.mono h.out.size))
theorem pW {w W W':World} {g:Nat} {cs:Array Value} {T:TypeId} (hp:Put g cs T W W') (h:Hid (Below w.heap.size w W)) (hg:w.heap.size≤g:=by omega):Hid (Below w.heap.size w W'):=hU (Below.put h.out hp hg)
theorem dWn {w W W':World} {n:Nat} (hd:W.drew=W') (h:Hid (Below n w W)):Hid (Below n w W'):=hU (by rw [← hd];exact h.out.drew)
end Kn
end Go.Proofs.YtfncknignkndiaaGreatDoor
namespace Go.Proofs.YtfncknignkndiaaGreatDoor
open Tryz
open Go.RowKit KR RegT3
namespace Kn
theorem qUb (v:Value) (s:dU) (w:World) (hv:xP w v s):Calls prog 68 #[v] w (aN (.bool (s.st==1)) w):=by
 obtain ⟨y,bs,rfl,hl⟩:=hv;obtain ⟨W0,hW0,hb0,H0⟩:=nb1 (W:=w) (.cells (aY y s) 67) rfl;have HB:=hU hb0;have f:W0.cell? ⟨w.heap.size,17,none⟩=some (.int .i64 s.st):=aC H0.out 17;clear hb0 hl;go_in;repeat' (first|(rw [hW0];clear hW0)|go_values|go_skip|go_guarded|refine wg ?_|go_step|go_upon)
 go_ret;exact cF rfl HB.out
theorem qRe (v:Value) (s:dU) (w:World) (hv:xP w v s):Calls prog 52 #[v] w (qDm (fP s) w):=by
 obtain ⟨y,bs,rfl,hl⟩:=hv;obtain ⟨q0,q1⟩:=eF w w.heap.size (.cells (aY y s) 67) (.cells zKe 67) rfl;have hb0:Below w.heap.size w ((w.alloc (.cells (aY y s) 67)).alloc (.cells zKe 67)):=bel;obtain ⟨W0,hW0⟩:=exW ((w.alloc (.cells (aY y s) 67)).alloc (.cells zKe 67));rw [hW0] at q0 q1 hb0;have A0:=hU q0;have R0:=hU q1;have B0:=hU hb0;have L0:=hU (hl.below hb0);have f:W0.cell? ⟨w.heap.size,17,none⟩=some (.int .i64 s.st):=aC A0.out 17;clear q0 q1 hb0 hl;by_cases h2:s.st=2
 · have b2:(s.st==2)=true:=by simp [h2]
   have HS:=hU (show fP s={s with st:=1} from if_pos h2);clear h2;go_in
   repeat' (first
    |(rw [hW0];clear hW0)
    |(refine aP (t:=3) (v:=.int .i64 1) (off:=17) (new:=aY y {s with st:=1}) rfl rfl rfl rfl cO A0.out rfl rfl (show 17 + 1≤19 by decide) rfl ?_;intro W1 hp
      have A1:=pA hp;have R1:=pO hp R0;have L1:=pL hp A0 L0 pH;have B1:=hU (Below.put B0.out hp (Nat.le_refl _));clear hp A0 R0 L0 B0)
    |(refine aE (t:=67) (v:=.agg (aY y {s with st:=1})) rfl rfl rfl (aD dN A1.out rfl) ?_;clear A1)
    |(refine sN 67 (.agg (aY y {s with st:=1})) 0 (aY y {s with st:=1}) dN.size R1.out (sP L1.out) fun W2 hp=> ?_
      have R2:=pA hp;have L2:=pL hp R1 L1 pH;have B2:=hU (Below.put B1.out hp (by omega));clear hp R1 L1 B1)
    |go_values|go_skip|go_guarded|refine wg ?_|go_step|go_upon)
   (try simp only [Exit.inBlock,Exit.then]);refine bodyPost_ret (cJ results52 dN rfl R2.out rfl) rfl ?_
   rw [HS.out];exact ⟨_,rfl,⟨_,_,rfl,L2.out⟩,B2.out⟩
 · have b2:(s.st==2)=false:=by simp [h2]
   have HS:=hU (show fP s=s from if_neg h2);clear h2;go_in
   repeat' (first
    |(rw [hW0];clear hW0)
    |(refine aE (t:=67) (v:=.agg (aY y s)) rfl rfl rfl (aD dN A0.out rfl) ?_;clear A0)
    |(refine sN 67 (.agg (aY y s)) 0 (aY y s) dN.size R0.out (sP L0.out) fun W1 hp=> ?_
      have R1:=pA hp;have L1:=pL hp R0 L0 pH;have B1:=hU (Below.put B0.out hp (by omega));clear hp R0 L0 B0)
    |go_values|go_skip|go_guarded|refine wg ?_|go_step|go_upon)
   (try simp only [Exit.inBlock,Exit.then]);refine bodyPost_ret (cJ results52 dN rfl R1.out rfl) rfl ?_
   rw [HS.out];exact ⟨_,rfl,⟨_,_,rfl,L1.out⟩,B1.out⟩
theorem qNs (v:Value) (s:dU) (n:Int) (body:ByteArray) (w:World) (hv:xP w v s) (hbl:s.k.box.length≤1000000) (hil:s.k.ins_.length≤1000000) (hbd:∀ q ∈ s.k.box,q.l.length≤1000000∧ -4611686018427387904≤q.lost∧q.lost≤4611686018427387904):
 Calls prog 50 #[v,.int .i64 n,.string body] w (qDm (fX s n body) w):=by
 obtain ⟨y,bs,rfl,hl⟩:=hv;obtain ⟨q0,q1⟩:=eF w w.heap.size (.cells (aY y s) 67) (.cells zKe 67) rfl;have hb0:Below w.heap.size w ((w.alloc (.cells (aY y s) 67)).alloc (.cells zKe 67)):=bel;obtain ⟨W0,hW0⟩:=exW ((w.alloc (.cells (aY y s) 67)).alloc (.cells zKe 67));rw [hW0] at q0 q1 hb0;have A0:=hU q0;have R0:=hU q1;have B0:=hU hb0;have L0:=hU (hl.below hb0);have e4:=qRd (.agg (aJ y s.k)) s.k n body s.k.now W0 ⟨y,bs,rfl,L0.out⟩ hbl hil hbd;have HST:=hU e4;have f7:W0.cell? ⟨w.heap.size,7,none⟩=some (.int .u64 s.k.now):=aC A0.out 7;clear q0 q1 hb0 hl hbl hil hbd e4;go_in
 repeat' (first
  |(rw [hW0];clear hW0)
  |(refine aE (t:=41) (v:=.agg (aJ y s.k)) rfl rfl rfl (cB cR A0.out (qGu _ _) rfl) ?_)
  |go_values|go_skip|go_guarded|refine wg ?_|go_step|go_upon)
 refine HST.out.mono ?_;rintro er W1 ⟨v1,rfl,⟨y1,bs1,rfl,hl1⟩,hb1⟩;have A1:=nB hb1 A0;have R1:=nB hb1 R0;have L1:=hU hl1;have B1:=hU (B0.out.trans (hb1.mono B0.out.size));have HON:=hU (nS L1.out);clear hb1 hl1 f7 A0 R0 L0 B0 HST;dsimp only
 repeat' (first
  |(refine sN 41 (.agg (aJ y1 (dI s.k n body s.k.now))) 0 (aY y1 (fX s n body)) cR.size A1.out HON.out fun W2 hp=> ?_
    have A2:=pA hp;have R2:=pO hp R1;have L2:Hid (aH W2 y1 bs1 (fX s n body).k):=pL hp A1 L1 pH;have B2:=hU (Below.put B1.out hp (Nat.le_refl _));clear hp A1 R1 L1 B1)
  |(refine aE (t:=67) (v:=.agg (aY y1 (fX s n body))) rfl rfl rfl (aD dN A2.out rfl) ?_;clear A2)
  |(refine sN 67 (.agg (aY y1 (fX s n body))) 0 (aY y1 (fX s n body)) dN.size R2.out (sP L2.out) fun W3 hp=> ?_
    have R3:=pA hp;have L3:=pL hp R2 L2 pH;have B3:=hU (Below.put B2.out hp (by omega));clear hp R2 L2 B2)
  |go_values|go_skip|go_guarded|refine wg ?_|go_step|go_upon)
 (try simp only [Exit.inBlock,Exit.then]);refine bodyPost_ret (cJ results50 dN rfl R3.out rfl) rfl ?_
 exact ⟨_,rfl,⟨_,_,rfl,L3.out⟩,B3.out⟩
