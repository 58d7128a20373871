/- A message that arrived, as it lies. Conditions: as told. -/
import Derived.Test.YtfncknignkndiaaGreatDoorGSe0
import Derived.Test.YtfncknignkndiaaGreatDoorGWin
set_option linter.unusedVariables false
set_option maxRecDepth 100000
set_option maxHeartbeats 8000000
set_option linter.unusedSimpArgs false
namespace Go.Proofs.YtfncknignkndiaaGreatDoor
open Tryz
open Go.RowKit
namespace Kn
structure jZ where
 at_:Int
 port:Int
 body:ByteArray
def jZ.cells (a:jZ):Array Value:=#[.int .u64 a.at_,.int .i64 a.port,.string a.body]
instance:Inhabited jZ:=⟨⟨0,0,ByteArray.empty⟩⟩
end Kn
end Go.Proofs.YtfncknignkndiaaGreatDoor
namespace Go.Proofs.YtfncknignkndiaaGreatDoor
open Tryz
open Go.RowKit KR Kn
namespace Hy
structure SB where
 y:Lay
 bs:List fY
 s:dU
def SB.cells (x:SB):Array Value:=aY x.y x.s
theorem szSB:∀ x:SB,(SB.cells x).size=19:=fun _=> rfl
structure AB where
 v:Value
 l:List jZ
def AB.cells (x:AB):Array Value:=#[x.v]
theorem szAB:∀ x:AB,(AB.cells x).size=1:=fun _=> rfl
theorem oM {w:World} {a:Addr} {v:Value} (h:w.cell? a=some v):a.block<w.heap.size:=by
 rcases Nat.lt_or_ge a.block w.heap.size with h'|h'
 · exact h'
 · simp [World.cell?,Array.getElem?_eq_none h'] at h
theorem qWn:Cl 67 58 19 336 109:=by
 have hu:=underlying58;have hi:(prog.info? 67).map (fun i=> (i.zero.map (·.cells.size),i.size,i.bytes))=some (some 19,19,336):=by kernel_rfl
 exact clM
theorem qZk:Cl 69 59 1 24 202:=by
 have hu:=underlying59;have hi:(prog.info? 69).map (fun i=> (i.zero.map (·.cells.size),i.size,i.bytes))=some (some 1,1,24):=by kernel_rfl
 exact clM
def mL (W:World) (v:Value) (l:List SB):Prop:=Sl 67 19 SB.cells W v l∧∀ x ∈ l,aH W x.y x.bs x.s.k
theorem mL.below {W W':World} {v:Value} {l:List SB} (h:mL W v l) (hb:Below W.heap.size W W'):mL W' v l:=⟨h.1.below hb,fun x hx=> (h.2 x hx).below hb⟩
theorem qNi (v:Value) (l:List SB) (i:Nat) (x:SB) (w:World) (h:mL w v l) (hx:aH w x.y x.bs x.s.k) (hi:i<l.length) (hn:l.length≤1000000):
 Calls prog 66 #[v,.int .i64 i,.agg (SB.cells x)] w (fun e w'=> ∃ v',e=.returned v'∧mL w' v' (l.set i x)∧Below w.heap.size w w'):=by
 obtain ⟨a,c,rfl,_,_⟩:=h.1.shape;obtain ⟨W0,hW0,hb0,HX⟩:=nb1 (W:=w) (.cells (SB.cells x) 67) rfl;have HON:=hU (sP (hx.below hb0));have e4:=clS qWn szSB (h.1.below hb0) (fun z hz u hu=> sP ((h.2 z hz).below hb0) u hu);have HC:=hU e4;have HB0:=hU hb0
 have HALL:Hid (∀ z ∈ l.set i x,aH W0 z.y z.bs z.s.k):=hU (fun z hz=> by
  rcases List.mem_or_eq_of_mem_set hz with hz|rfl
  · exact (h.2 z hz).below hb0
  · exact hx.below hb0)
 have hi0:(0:Int)≤(i:Int):=by omega
 have hi1:(i:Int)<(l.length:Int):=by omega
 have HXS:Hid ((SB.cells x).size=19):=hU rfl;have HSET:=hU (fun (W W':World) (g cp:Nat) (cu:Array Value) (hr:Row 67 19 SB.cells W g cp l cu) (hp:Put g (aQ cu (i * 19) (SB.cells x)) 67 W W')=> Row.set szSB hr (i:=i) hi rfl hp);clear h hx hb0 e4;obtain ⟨xc,hxc⟩:∃ xc,SB.cells x=xc:=⟨_,rfl⟩
 have hON2:=HON.out;rw [show (aY x.y x.s)=xc from hxc] at hON2;have HON2:=hU hON2;rw [hxc] at hW0 HX HXS HSET ⊢;clear HON hON2 hxc;go_in;repeat' (first|(rw [hW0];clear hW0)|go_values|go_skip|go_guarded|refine wg ?_|go_step|go_upon)
 refine HC.out.mono ?_;rintro e W1 ⟨v1,rfl,hown,hb1⟩;have HX1:=nB hb1 HX;have HB1:Hid (Below w.heap.size w W1):=hU (HB0.out.trans (hb1.mono HB0.out.size));have hz:=HB0.out.size;have hz0:=hlt HX.out;obtain ⟨g,cp,cur,hv,hBg,hrow⟩:=hown.row (by intro e;subst e;simp at hi);subst hv;have hgl:=hlt hrow.1;have HROW:=hU hrow
 have hfit:i * 19 + 19≤cur.size:=by
  rw [hrow.2.2.2.1]
  have:(i + 1) * 19≤cp * 19:=Nat.mul_le_mul_right _ (by have:=hrow.2.1;omega)
  omega
 have HFIT:=hU hfit;have hgne:g ≠ w.heap.size:=by omega
 have HBB:=hU hb1;clear hown hb1 hrow hfit HC;dsimp only
 repeat' (first
  |(refine aE (t:=67) (v:=.agg xc) rfl rfl rfl (aD dN HX1.out HXS.out) ?_)
  |(refine aK (t:=67) (v:=.agg xc) (off:=i * 19) rfl rfl rfl rfl dN.size HROW.out.1 HXS.out HFIT.out HON2.out rfl ?_;intro W3 hp3;(have HR3:=hU (HSET.out W1 W3 g _ cur HROW.out hp3));(have HB3:=hU (Below.put HB1.out hp3 (by omega)));(have HP3:=hU hp3);clear hp3)
  |go_values|go_skip|go_guarded|refine wg ?_|go_step|go_upon)
 go_ret;have hown:=HR3.out.own (B:=w.heap.size) szSB (by omega);rw [List.length_set] at hown;refine ⟨_,rfl,⟨hown.sl szSB,fun z hz=> ?_⟩,HB3.out⟩;exact ((HALL.out z hz).below HBB.out).put HROW.out.1 pH HP3.out
def nM (W:World) (v:Value) (l:List AB):Prop:=Sl 69 1 AB.cells W v l∧∀ x ∈ l,Sl 131 3 jZ.cells W x.v x.l
theorem nM.below {W W':World} {v:Value} {l:List AB} (h:nM W v l) (hb:Below W.heap.size W W'):nM W' v l:=⟨h.1.below hb,fun x hx=> (h.2 x hx).below hb⟩
theorem qEk {α:Type} {E:TypeId} {sz:Nat} {f:α→Array Value} {W:World} {v:Value} {l:List α} (h:Sl E sz f W v l):v.oneCell'=true:=by
 obtain ⟨_,_,rfl,_⟩:=h.shape;rfl
theorem qXb:One prog 69:=gU underlying69 rfl (by kernel_rfl)
theorem qYm (v:Value) (l:List AB) (i:Nat) (x:AB) (w:World) (h:nM w v l) (hx:Sl 131 3 jZ.cells w x.v x.l) (hi:i<l.length) (hn:l.length≤1000000):
 Calls prog 154 #[v,.int .i64 i,x.v] w (fun e w'=> ∃ v',e=.returned v'∧nM w' v' (l.set i x)∧Below w.heap.size w w'):=by
 obtain ⟨a,c,rfl,_,_⟩:=h.1.shape
 have e4:=clS qZk szAB h.1 (fun z hz u hu=> by
  have:u=z.v:=by simpa [AB.cells] using hu
  rw [this];exact qEk (h.2 z hz))
 have HC:=hU e4
 have HALL:Hid (∀ z ∈ l.set i x,Sl 131 3 jZ.cells w z.v z.l):=hU (fun z hz=> by
  rcases List.mem_or_eq_of_mem_set hz with hz|rfl
  · exact h.2 z hz
  · exact hx)
 have hi0:(0:Int)≤(i:Int):=by omega
 have hi1:(i:Int)<(l.length:Int):=by omega
 obtain ⟨xa,xcp,hxv,_,_⟩:=hx.shape;obtain ⟨n,hn2⟩:∃ n,x.l.length=n:=⟨_,rfl⟩
 rw [hn2] at hxv;have HSET:=hU (fun (W W':World) (g cp:Nat) (cu:Array Value) (hr:Row 69 1 AB.cells W g cp l cu) (hp:Put g (aQ cu (i * 1) #[x.v]) 69 W W')=> Row.set szAB hr (i:=i) (x:=x) hi rfl hp);rw [hxv] at HSET ⊢;clear h hx e4 hxv hn2;go_in;refine sg ?_;intros;refine HC.out.mono ?_;rintro e W1 ⟨v1,rfl,hown,hb1⟩;obtain ⟨g,cp,cur,hv,hBg,hrow⟩:=hown.row (by intro e;subst e;simp at hi);subst hv;have HROW:=hU hrow
 have hfit:i + 1≤cur.size:=by
  rw [hrow.2.2.2.1];have:=hrow.2.1
  omega
 have HFIT:=hU hfit;have HBB:=hU hb1;clear hown hb1 hrow hfit HC;dsimp only
 repeat' (first
  |(refine aP (t:=69) (v:=.slice xa n xcp) (off:=i) rfl rfl rfl rfl qXb HROW.out.1 rfl rfl HFIT.out rfl ?_;intro W3 hp3;(have HR3:=hU (HSET.out W1 W3 g _ cur HROW.out (by rw [Nat.mul_one];exact hp3)));(have HB3:=hU (Below.put HBB.out hp3 hBg));(have HP3:=hU hp3);clear hp3)
  |go_values|go_skip|go_guarded|refine wg ?_|go_step|go_upon)
 go_ret;have hown:=HR3.out.own (B:=w.heap.size) szAB hBg;rw [List.length_set] at hown;refine ⟨_,rfl,⟨hown.sl szAB,fun z hz=> ?_⟩,HB3.out⟩;exact ((HALL.out z hz).below HBB.out).put HROW.out.1 HP3.out (by decide)
def oG (cs:List cS) (i:Int):List cS:=cs.filter (fun c=> c.src==i)
def lH (cs:List cS) (i:Int):List cS:=cs.filter (fun c=> c.dst==i)
theorem qVl (x:cS) (b:Nat) (i:Int) (w:World) (hb:w.cell? ⟨b,0,none⟩=some (.int .i64 i)) (hl:b<w.heap.size):
 Calls prog 101 #[.agg x.cells,.pointer (some ⟨b,0,none⟩)] w (aN (.bool (x.src==i)) w):=by
 unfold cS.cells;go_in;refine sg ?_;intros;go_ret;exact cF rfl bel
theorem qYt (x:cS) (b:Nat) (i:Int) (w:World) (hb:w.cell? ⟨b,0,none⟩=some (.int .i64 i)) (hl:b<w.heap.size):
 Calls prog 102 #[.agg x.cells,.pointer (some ⟨b,0,none⟩)] w (aN (.bool (x.dst==i)) w):=by
 unfold cS.cells;go_in;refine sg ?_;intros;go_ret;exact cF rfl bel
theorem qVm (x:cS) (b:Nat) (F:FuncId) (cap:Value) (pr:cS→Bool) (B:Nat) (w0 w:World) (hb:w.cell? ⟨b,0,none⟩=some (.func (.func F) #[] #[cap])) (hl:b<w.heap.size) (hw:Below B w0 w) (hB:B≤w.heap.size) (hen:Enters prog F) (hF:∀ x W,Below B w0 W→Calls prog F #[.agg (cS.cells x),cap] W (aN (.bool (pr x)) W)):
 Calls prog 149 #[.agg x.cells,.pointer (some ⟨b,0,none⟩)] w (aN (.bool (!pr x)) w):=by
 have HF:=hU (fun W h=> hF x W h);have HEN:=hU hen;have HW:=hU hw;clear hF hen hw;unfold cS.cells at *;go_in;refine sg ?_;intros;rw [HEN.out];dsimp only [Oper.upon];refine (HF.out _ (HW.out.trans ((Below.refl w.heap.size w).alloc (Nat.le_refl _) _|>.mono hB))).mono ?_;rintro e W1 ⟨rfl,hb1⟩;dsimp only;refine sg ?_;intros;go_ret;exact cF rfl (((Below.refl _ _).alloc (Nat.le_refl _) _).trans (hb1.mono (by simp)))
theorem qSk:Enters prog 149:=enters_of func149 (by kernel_rfl) rfl
theorem qSj:Enters prog 101:=enters_of func101 (by kernel_rfl) rfl
theorem qWs:Enters prog 102:=enters_of func102 (by kernel_rfl) rfl
theorem qTy (vp vw vc:Value) (fr:Int) (cs:List cS) (F:FuncId) (cap:Value) (pr:cS→Bool) (w:World) (hc:Rd 5 cS.cells w vc cs) (hn:cs.length≤1000000) (hen:Enters prog F) (hF:∀ x W,Below w.heap.size w W→Calls prog F #[.agg (cS.cells x),cap] W (aN (.bool (pr x)) W)):
 Calls prog 100 #[.agg #[vp,.int .i64 fr,vw,vc],.func (.func F) #[] #[cap]] w (fun e w'=> ∃ v,e=.returned v∧KR.Own 102 5 cS.cells w.heap.size w' v (cs.filter pr)∧Below w.heap.size w w'):=by
 obtain ⟨a,c,rfl,_,_⟩:=hc.shape;obtain ⟨q0,q1⟩:=eF w w.heap.size (.cells #[vp,.int .i64 fr,vw,.slice a cs.length c] 53) (.cells #[.func (.func F) #[] #[cap]] 183) rfl;have hb0:Below w.heap.size w ((w.alloc (.cells #[vp,.int .i64 fr,vw,.slice a cs.length c] 53)).alloc (.cells #[.func (.func F) #[] #[cap]] 183)):=bel;have hsz:((w.alloc (.cells #[vp,.int .i64 fr,vw,.slice a cs.length c] 53)).alloc (.cells #[.func (.func F) #[] #[cap]] 183)).heap.size=w.heap.size + 2:=by simp
 obtain ⟨W0,hW0⟩:∃ W0,(w.alloc (.cells #[vp,.int .i64 fr,vw,.slice a cs.length c] 53)).alloc (.cells #[.func (.func F) #[] #[cap]] 183)=W0:=⟨_,rfl⟩
 rw [hW0] at q0 q1 hb0 hsz;have HC:=hU (iI _ cs W0 (hc.below hb0) (by omega));have p3:W0.cell? ⟨w.heap.size,3,none⟩=some (.slice a cs.length c):=aC q0 3;have HB0:=hU hb0;have HQ1:=hU q1;have HF:=hU hF;have HEN:=hU hen;clear hF hen hc q0 q1 hb0;go_in;repeat' (first|(rw [hW0];clear hW0)|go_values|go_skip|go_guarded|refine wg ?_|go_step|go_upon)
 refine HC.out.mono ?_;rintro e W1 ⟨v1,rfl,hown,hb1⟩;have hz1:=hb1.size;have h1:=(hb1.block _ (by omega)).trans HQ1.out;have hb01:Below w.heap.size w W1:=HB0.out.trans (hb1.mono (by omega))
 have HD:=hU (qSe v1 cs (fun x=> !pr x) 149 (.pointer (some ⟨w.heap.size + 1,0,none⟩)) W0.heap.size W1 hown (by omega) qSk
  (fun x W hb=> qVm x (w.heap.size + 1) F cap pr w.heap.size w W (aC ((hb.block _ (by omega)).trans h1) 0) (by have:=hb.size;omega) (hb01.trans (hb.mono (by omega))) (by have:=hb.size;omega) HEN.out HF.out))
 have HB1:=hU hb01;obtain ⟨a1,c1,rfl,_,_⟩:=(hown.sl iO).shape;clear hown hb1 hb01 h1;dsimp only;repeat' (first|(go_at_call 148;refine HD.out.mono ?_;rintro e w2 ⟨v2,rfl,hown2,hb2⟩;dsimp only)|go_values|go_skip|go_guarded|refine wg ?_|go_step|go_upon)
 go_ret;have he:cs.filter (fun x=> !!pr x)=cs.filter pr:=by simp
 rw [he] at hown2;exact ⟨_,rfl,KR.Own.mono hown2 (by omega),HB1.out.trans (hb2.mono (by omega))⟩
theorem qYu (vp vw vc:Value) (fr i:Int) (cs:List cS) (w:World) (hc:Rd 5 cS.cells w vc cs) (hn:cs.length≤1000000):
 Calls prog 45 #[.agg #[vp,.int .i64 fr,vw,vc],.int .i64 i] w (fun e w'=> ∃ v,e=.returned v∧KR.Own 102 5 cS.cells w.heap.size w' v (oG cs i)∧Below w.heap.size w w'):=by
 obtain ⟨q0,q1⟩:=eF w w.heap.size (.cells #[vp,.int .i64 fr,vw,vc] 53) (.cells #[.int .i64 i] 3) rfl;have hb0:Below w.heap.size w ((w.alloc (.cells #[vp,.int .i64 fr,vw,vc] 53)).alloc (.cells #[.int .i64 i] 3)):=bel;have hsz:((w.alloc (.cells #[vp,.int .i64 fr,vw,vc] 53)).alloc (.cells #[.int .i64 i] 3)).heap.size=w.heap.size + 2:=by simp
 obtain ⟨W0,hW0⟩:∃ W0,(w.alloc (.cells #[vp,.int .i64 fr,vw,vc] 53)).alloc (.cells #[.int .i64 i] 3)=W0:=⟨_,rfl⟩
 rw [hW0] at q0 q1 hb0 hsz
 have HS:=hU (qTy vp vw vc fr cs 101 (.pointer (some ⟨w.heap.size + 1,0,none⟩)) (fun x=> x.src==i) W0 (hc.below hb0) hn qSj
  (fun x W hb=> qVl x (w.heap.size + 1) i W (aC ((hb.block _ (by omega)).trans q1) 0) (by have:=hb.size;omega)))
 have p0:W0.cell? ⟨w.heap.size,0,none⟩=some vp:=aC q0 0;have p1:W0.cell? ⟨w.heap.size,1,none⟩=some (.int .i64 fr):=aC q0 1;have p2:W0.cell? ⟨w.heap.size,2,none⟩=some vw:=aC q0 2;have p3:W0.cell? ⟨w.heap.size,3,none⟩=some vc:=aC q0 3;have HB0:=hU hb0;clear hc q0 q1 hb0;go_in;repeat' (first|(rw [hW0];clear hW0)|go_values|go_skip|go_guarded|refine wg ?_|go_step|go_upon)
 refine HS.out.mono ?_;rintro e W1 ⟨v1,rfl,hown,hb1⟩;obtain ⟨a1,c1,rfl,_,_⟩:=(hown.sl iO).shape;have HO:=hU hown;have HB1:=hU (HB0.out.trans (hb1.mono (by omega)));clear hown hb1;dsimp only;refine sg ?_;intros;go_ret;exact ⟨_,rfl,KR.Own.mono HO.out (by omega),HB1.out⟩
theorem RIns (vp vw vc:Value) (fr i:Int) (cs:List cS) (w:World) (hc:Rd 5 cS.cells w vc cs) (hn:cs.length≤1000000):
 Calls prog 46 #[.agg #[vp,.int .i64 fr,vw,vc],.int .i64 i] w (fun e w'=> ∃ v,e=.returned v∧KR.Own 102 5 cS.cells w.heap.size w' v (lH cs i)∧Below w.heap.size w w'):=by
 obtain ⟨q0,q1⟩:=eF w w.heap.size (.cells #[vp,.int .i64 fr,vw,vc] 53) (.cells #[.int .i64 i] 3) rfl;have hb0:Below w.heap.size w ((w.alloc (.cells #[vp,.int .i64 fr,vw,vc] 53)).alloc (.cells #[.int .i64 i] 3)):=bel;have hsz:((w.alloc (.cells #[vp,.int .i64 fr,vw,vc] 53)).alloc (.cells #[.int .i64 i] 3)).heap.size=w.heap.size + 2:=by simp
 obtain ⟨W0,hW0⟩:∃ W0,(w.alloc (.cells #[vp,.int .i64 fr,vw,vc] 53)).alloc (.cells #[.int .i64 i] 3)=W0:=⟨_,rfl⟩
 rw [hW0] at q0 q1 hb0 hsz
 have HS:=hU (qTy vp vw vc fr cs 102 (.pointer (some ⟨w.heap.size + 1,0,none⟩)) (fun x=> x.dst==i) W0 (hc.below hb0) hn qWs
  (fun x W hb=> qYt x (w.heap.size + 1) i W (aC ((hb.block _ (by omega)).trans q1) 0) (by have:=hb.size;omega)))
 have p0:W0.cell? ⟨w.heap.size,0,none⟩=some vp:=aC q0 0;have p1:W0.cell? ⟨w.heap.size,1,none⟩=some (.int .i64 fr):=aC q0 1;have p2:W0.cell? ⟨w.heap.size,2,none⟩=some vw:=aC q0 2;have p3:W0.cell? ⟨w.heap.size,3,none⟩=some vc:=aC q0 3;have HB0:=hU hb0;clear hc q0 q1 hb0;go_in;repeat' (first|(rw [hW0];clear hW0)|go_values|go_skip|go_guarded|refine wg ?_|go_step|go_upon)
 refine HS.out.mono ?_;rintro e W1 ⟨v1,rfl,hown,hb1⟩;obtain ⟨a1,c1,rfl,_,_⟩:=(hown.sl iO).shape;have HO:=hU hown;have HB1:=hU (HB0.out.trans (hb1.mono (by omega)));clear hown hb1;dsimp only;refine sg ?_;intros;go_ret;exact ⟨_,rfl,KR.Own.mono HO.out (by omega),HB1.out⟩
end Hy
end Go.Proofs.YtfncknignkndiaaGreatDoor
namespace Go.Proofs.YtfncknignkndiaaGreatDoor
open Tryz
open Go.RowKit KR Kn RegT3
namespace Hy
theorem qXh {α:Type} {sz:Nat} {f:α→Array Value} {W:World} {a:Option Addr} {n c:Nat} {l:List α} (h:Rd sz f W (.slice a n c) l) (k c':Nat) (hk:k≤n) (h1:k≤c') (h2:c'≤9223372036854775807):Rd sz f W (.slice a k c') (l.take k):=by
 obtain ⟨a0,c0,he,_,_,h⟩:=h;injection he with ha0 hn hc
 subst ha0 hn hc;refine ⟨_,_,by rw [List.length_take,Nat.min_eq_left hk],by rw [List.length_take];omega,h2,?_⟩;rcases h with rfl|⟨b,off,rfl,hb,aC⟩
 · exact .inl (by simp)
 · refine .inr ⟨b,off,rfl,hb,fun i x hx j u hj=> ?_⟩;rw [List.getElem?_take] at hx;split at hx
   · exact aC _ x hx j u hj
   · cases hx
def tG (part:Int):List cS→List cS→Int→Option (Int × Int)
 |_,[],_=> none
 |pre,c::r,port=> if c.src=part then (if port=0 then some (c.dst,((lH pre c.dst).length:Int)) else tG part (pre ++ [c]) r (port - 1)) else tG part (pre ++ [c]) r port
def uR (cs:List cS) (part port:Int):Option (Int × Int):=if port<0 then none else tG part [] cs port
theorem qTk {part:Int} {cs:List cS} {k:Nat} {c:cS} {p:Int} (h:cs[k]? =some c):tG part (cs.take k) (cs.drop k) p=if c.src=part then (if p=0 then some (c.dst,((lH (cs.take k) c.dst).length:Int)) else tG part (cs.take (k + 1)) (cs.drop (k + 1)) (p - 1)) else tG part (cs.take (k + 1)) (cs.drop (k + 1)) p:=by
 obtain ⟨h1,h2⟩:=cD h;rw [h2,tG,h1]
def pS (o:Option (Int × Int)):Array Value:=#[.int .i64 (o.getD (0,0)).1,.int .i64 (o.getD (0,0)).2]
theorem lV:Agg prog 252 2:=gD underlying252 rfl (by kernel_rfl)
def ToR (w:World) (pc:Array Value) (cs:List cS) (part port:Int) (pv iv:Value) (W:World):Prop:=∃ (k:Nat) (p:Int),k≤cs.length∧iv=.int .i64 k∧pv=.int .i64 p∧0≤p∧p≤port∧Hid (tG part (cs.take k) (cs.drop k) p=uR cs part port)∧Hid (W.heap[w.heap.size]? =some (.cells pc 53 (0,0)))∧Hid (W.heap[w.heap.size + 1]? =some (.cells #[.int .i64 0,.int .i64 0] 252 (0,0)))∧Hid (Below w.heap.size w W)
theorem RTo (vp vw vc:Value) (fr part port:Int) (cs:List cS) (w:World) (hc:Rd 5 cS.cells w vc cs) (hn:cs.length≤1000000) (hp:port≤9223372036854775807):
 Calls prog 153 #[.agg #[vp,.int .i64 fr,vw,vc],.int .i64 part,.int .i64 port] w (aN (.tuple #[.agg (pS (uR cs part port)),.bool (uR cs part port).isSome]) w):=by
 obtain ⟨a,c,rfl,hc1,hc2⟩:=hc.shape;obtain ⟨q0,q1⟩:=eF w w.heap.size (.cells #[vp,.int .i64 fr,vw,.slice a cs.length c] 53) (.cells #[.int .i64 0,.int .i64 0] 252) rfl;have hb0:Below w.heap.size w ((w.alloc (.cells #[vp,.int .i64 fr,vw,.slice a cs.length c] 53)).alloc (.cells #[.int .i64 0,.int .i64 0] 252)):=bel;obtain ⟨W0,hW0⟩:∃ W0,(w.alloc (.cells #[vp,.int .i64 fr,vw,.slice a cs.length c] 53)).alloc (.cells #[.int .i64 0,.int .i64 0] 252)=W0:=⟨_,rfl⟩
 rw [hW0] at q0 q1 hb0;have HQ0:=hU q0;have HQ1:=hU q1;have HB:=hU hb0;have HC:=hU (fun W (h:Below w.heap.size w W)=> hc.below h);have p3:W0.cell? ⟨w.heap.size,3,none⟩=some (.slice a cs.length c):=aC q0 3;clear hc q0 q1 hb0;by_cases hneg:port<0
 · have d1:decide (port<0)=true:=by simp [hneg]
   have ht:uR cs part port=none:=if_pos hneg;go_in
   repeat' (first
    |(rw [hW0];clear hW0)
    |(refine aK (t:=252) (v:=.agg #[.int .i64 0,.int .i64 0]) (off:=0) (new:=#[.int .i64 0,.int .i64 0]) rfl rfl rfl rfl lV.size HQ1.out rfl (by simp) (by intro u hu;simp [Value.cells] at hu;rcases hu with rfl|rfl <;> rfl) rfl ?_;intro W1 hp1;have HR:=hU hp1.at_;have HB1:=hU (Below.put HB.out hp1 (by omega));clear hp1)
    |go_values|go_skip|go_guarded|refine wg ?_|go_step|go_upon)
   (try simp only [Exit.inBlock,Exit.then]);refine bodyPost_ret (aT results153 lV rfl HR.out rfl) rfl ?_
   rw [ht];exact ⟨rfl,HB1.out⟩
 have d1:decide (port<0)=false:=by simp;omega
 have HT0:Hid (tG part (cs.take 0) (cs.drop 0) port=uR cs part port):=hU (by unfold uR;rw [if_neg hneg];rfl);have hp0:0≤port:=by omega
 go_in;repeat' (first|(rw [hW0];clear hW0)|go_values|go_skip|go_guarded|refine wg ?_|go_step|go_upon)
 clear p3 hneg d1;go_loopw [2,16] (fun pv iv wr=> ToR w #[vp,.int .i64 fr,vw,.slice a cs.length c] cs part port pv iv wr) (fun _ iv _=> cs.length - (intOf iv).toNat)
 case atStart=> exact ⟨0,port,Nat.zero_le _,rfl,rfl,hp0,Int.le_refl _,HT0,HQ0,HQ1,HB⟩
 case round=>
  clear HT0 HQ0 HQ1 HB;obtain ⟨k,p,hk,rfl,rfl,hpp,hpq,HT,HQ0,HQ1,HB⟩:=hrel;obtain ⟨Wn,rfl⟩:∃ Wn,Wn=wr:=⟨_,rfl⟩
  by_cases hkl:k<cs.length
  · have hj1:decide ((k:Int)<(cs.length:Int))=true:=by simp [hkl]
    have hj2:(k:Int)<(cs.length:Int):=by omega
    have hj0:(0:Int)≤(k:Int):=by omega
    obtain ⟨x,hx⟩:∃ x,cs[k]? =some x:=⟨_,List.getElem?_eq_getElem hkl⟩
    have HA:=hU (@qTk part cs k x p hx);have HRD:=hU (HC.out Wn HB.out);obtain ⟨gb,off,hga,hgb,hcell0⟩:=HRD.out.elem.2.2.2 k x hx;subst hga;have c0:Wn.cell? ⟨gb,off + k * 5,none⟩=some (.int .i64 x.kind):=hcell0 Wn (Below.refl _ _) 0 _ rfl;have c1:Wn.cell? ⟨gb,off + k * 5 + 1,none⟩=some (.int .i64 x.src):=hcell0 Wn (Below.refl _ _) 1 _ rfl;have c2:Wn.cell? ⟨gb,off + k * 5 + 2,none⟩=some (.int .i64 x.dst):=hcell0 Wn (Below.refl _ _) 2 _ rfl;have c3:Wn.cell? ⟨gb,off + k * 5 + 3,none⟩=some (.int .i64 x.size):=hcell0 Wn (Below.refl _ _) 3 _ rfl;have c4:Wn.cell? ⟨gb,off + k * 5 + 4,none⟩=some (.int .i64 x.depth):=hcell0 Wn (Below.refl _ _) 4 _ rfl;have p3:Wn.cell? ⟨w.heap.size,3,none⟩=some (.slice (some ⟨gb,off,none⟩) cs.length c):=aC HQ0.out 3;have hbz:=HB.out.size;have hz0:=hlt HQ0.out;have hz1:=hlt HQ1.out;have hwz:wrap64 (p - 1)=p - 1∨p=0:=by by_cases h:p=0;exact .inr h;left;unfold wrap64;omega
    clear hcell0 hx;obtain ⟨W1,hW1,hba,HX⟩:=nb1 (W:=Wn) (.cells #[.int .i64 x.kind,.int .i64 x.src,.int .i64 x.dst,.int .i64 x.size,.int .i64 x.depth] 102) rfl;have HQ0b:=nB hba HQ0;have HQ1b:=nB hba HQ1;have HB1:Hid (Below w.heap.size w W1):=hU (HB.out.trans (hba.mono hbz));have x1:W1.cell? ⟨Wn.heap.size,1,none⟩=some (.int .i64 x.src):=aC HX.out 1;clear hba;by_cases hsrc:x.src=part
    · have e1:(x.src !=part)=false:=by simp [hsrc]
      by_cases hp00:p=0
      · have e2:(p==0)=true:=by simp [hp00]
        have ht:uR cs part port=some (x.dst,((lH (cs.take k) x.dst).length:Int)):=by rw [← HT.out,HA.out,if_pos hsrc,if_pos hp00]
        have HTT:=hU ht;clear ht hsrc hwz;repeat' (first|(rw [hW1];clear hW1)|go_values|go_skip|go_guarded|refine wg ?_|go_step|go_upon)
        refine wp_region_noPanic ?_;refine go0 (S:=fun W=> W.cell? ⟨Wn.heap.size,2,none⟩=some (.int .i64 x.dst)∧W.cell? ⟨w.heap.size,3,none⟩=some (.slice (some ⟨gb,off,none⟩) cs.length c)) [] (⟨aC HX.out 2,aC HQ0b.out 3⟩) fun hS=> ?_;obtain ⟨W2,hWd⟩:=exW W1.drew;replace HX:=dB hWd HX;replace HQ0b:=dB hWd HQ0b;replace HQ1b:=dB hWd HQ1b;replace HB1:Hid (Below w.heap.size w W2):=hU (by rw [← hWd];exact HB1.out.drew);rw [hWd] at hS ⊢;clear hWd;have hkc:k≤c:=by omega
        have hkl2:k≤cs.length:=by omega
        refine tp 0 ?_;(try simp only [aF])
        refine tl 1 ?_;(try simp only [aF])
        refine tp 2 ?_;(try simp only [aF])
        refine tl 3 ?_;(try simp only [aF])
        refine tp 4 ?_;(try simp only [aF])
        refine tp 5 ?_;(try simp only [aF])
        refine tp 6 ?_;(try simp only [aF])
        refine tp 7 ?_;(try simp only [aF])
        refine tl 8 ?_;(try simp only [aF])
        refine ro 9 fun K hK=> ?_;refine want rfl ?_;go_simp;refine (RIns (.slice none 0 0) (.slice none 0 0) (.slice (some ⟨gb,off,none⟩) k c) 0 x.dst (cs.take k) _ (qXh (HC.out _ HB1.out) k c (by omega) (by omega) (by omega)) (by rw [List.length_take];omega)).mono ?_;rintro er W3 ⟨v3,rfl,hown,hb3⟩;obtain ⟨a3,c3,rfl,_,_⟩:=(hown.sl iO).shape;replace HX:=nB hb3 HX;replace HQ0b:=nB hb3 HQ0b;replace HQ1b:=nB hb3 HQ1b;replace HB1:Hid (Below w.heap.size w W3):=hU (HB1.out.trans (hb3.mono HB1.out.size));clear hown hb3 hS x1;dsimp only;refine nx hK (⟨aC HX.out 2,aC HQ0b.out 3⟩) fun hS=> ?_;clear hK K;(try simp only [aF])
        refine tp 10 ?_;(try simp only [aF])
        refine tp 11 ?_;(try simp only [aF])
        refine ro 12 fun K hK=> ?_;refine want rfl ?_;clear hS;refine cL (v:=.agg #[.int .i64 x.dst,.int .i64 ((lH (cs.take k) x.dst).length:Int)]) (off:=0) (new:=#[.int .i64 x.dst,.int .i64 ((lH (cs.take k) x.dst).length:Int)]) rfl rfl rfl lV.size HQ1b.out rfl (show 0 + 2≤2 by decide) (by intro u hu;simp [Value.cells] at hu;rcases hu with rfl|rfl <;> rfl) rfl ?_;intro W4 hp4;have hne:Wn.heap.size ≠ w.heap.size + 1:=by omega
        have HR:=hU hp4.at_;have HB4:=hU (Below.put HB1.out hp4 (by omega));refine nx hK (⟨aC ((hp4.oth _ hne).trans HX.out) 2,aC ((hp4.oth _ (by omega)).trans HQ0b.out) 3⟩) fun hS=> ?_;clear hK K hp4;(try simp only [aF])
        refine tp 13 ?_;(try simp only [aF])
        refine aZ (by kernel_rfl) (NoPanic.normal ?_) _;clear hS;refine sg ?_;intros;(try simp only [Exit.inBlock,Exit.then]);refine bodyPost_ret (aT results153 lV rfl HR.out rfl) rfl ?_
        rw [HTT.out];exact ⟨rfl,HB4.out⟩
      · have e2:(p==0)=false:=by simp [hp00]
        have hw2:wrap64 (p - 1)=p - 1:=hwz.resolve_right hp00;have hw3:IntKind.i64.wrap (p - 1)=p - 1:=by rw [IntKind.wrap_i64];omega
        have ht:tG part (cs.take (k + 1)) (cs.drop (k + 1)) (p - 1)=uR cs part port:=by rw [← HT.out,HA.out,if_pos hsrc,if_neg hp00]
        have HTT:=hU ht;have hpn:0≤p - 1:=by omega
        clear ht hsrc hwz;repeat' (first|(rw [hW1];clear hW1)|go_values|go_skip|go_guarded|refine wg ?_|go_step|go_upon)
        exact ⟨⟨k + 1,p - 1,by omega,by go_num,rfl,hpn,by omega,HTT,HQ0b,HQ1b,HB1⟩,by simp [intOf];omega⟩
    · have e1:(x.src !=part)=true:=by simp [hsrc]
      have ht:tG part (cs.take (k + 1)) (cs.drop (k + 1)) p=uR cs part port:=by rw [← HT.out,HA.out,if_neg hsrc]
      have HTT:=hU ht;clear ht hsrc hwz;repeat' (first|(rw [hW1];clear hW1)|go_values|go_skip|go_guarded|refine wg ?_|go_step|go_upon)
      exact ⟨⟨k + 1,p,by omega,by go_num,rfl,hpp,hpq,HTT,HQ0b,HQ1b,HB1⟩,by simp [intOf];omega⟩
  · have hj1:decide ((k:Int)<(cs.length:Int))=false:=by simp;omega
    have ht:uR cs part port=none:=by rw [← HT.out,List.drop_of_length_le (by omega)];rfl
    have HTT:=hU ht;clear ht
    repeat' (first
     |(refine aK (t:=252) (v:=.agg #[.int .i64 0,.int .i64 0]) (off:=0) (new:=#[.int .i64 0,.int .i64 0]) rfl rfl rfl rfl lV.size HQ1.out rfl (by simp) (by intro u hu;simp [Value.cells] at hu;rcases hu with rfl|rfl <;> rfl) rfl ?_;intro W1 hp1;have HR:=hU hp1.at_;have HB1:=hU (Below.put HB.out hp1 (by omega));clear hp1)
     |go_values|go_skip|go_guarded|refine wg ?_|go_step|go_upon)
    (try simp only [Exit.inBlock,Exit.then]);refine bodyPost_ret (aT results153 lV rfl HR.out rfl) rfl ?_
    rw [HTT.out];exact ⟨rfl,HB1.out⟩
end Hy
end Go.Proofs.YtfncknignkndiaaGreatDoor
namespace Go.Proofs.YtfncknignkndiaaGreatDoor
open Tryz
open Go.RowKit KR Kn
namespace Hy
def partOf (r:List Int):Part:=⟨Pl.g r 0,Pl.g r 1,Pl.g r 2,Pl.g r 3⟩
def chanOf (r:List Int):cS:=⟨Pl.g r 0,Pl.g r 1,Pl.g r 2,Pl.g r 3,Pl.g r 4⟩
def fD (P:Pl.fH):List cS:=P.cs.map chanOf
def parts (P:Pl.fH):List Part:=P.ps.map partOf
theorem qGl {P:Pl.fH} {who:Nat} (h:who<P.ps.length):(parts P)[who]? =some (partOf (P.ps.getD who [])):=by
 unfold parts;rw [List.getElem?_map,List.getD_eq_getElem?_getD,List.getElem?_eq_getElem h];rfl
structure cX where
 p:Pl.fH
 seats:List dU
 arr:List (List jZ)
 now:Int
 sched:Nat
 next:Int
 owner:Int
structure iF (W:World) (vp vw vc:Value) (P:Pl.fH):Prop where
 pl:jX W (.agg (eV vp vw vc P.fr)) P
 ch:Rd 5 cS.cells W vc (fD P)
 pa:Rd 4 Part.cells W vp (parts P)
theorem iF.below {W W':World} {vp vw vc:Value} {P:Pl.fH} (h:iF W vp vw vc P) (hb:Below W.heap.size W W'):iF W' vp vw vc P:=⟨h.pl.below hb,h.ch.below hb,h.pa.below hb⟩
def tP (W:World) (v:Value) (l:List (List ByteArray)):Prop:=
 ∃ a c,v=.slice a l.length c∧l.length≤c∧c≤9223372036854775807∧(l=[]∨∃ b off,a=some ⟨b,off,none⟩∧b<W.heap.size∧∀ i r,l[i]? =some r→∃ u,W.cell? ⟨b,off + i,none⟩=some u∧Rd 1 strCells W u r)
theorem tP.below {W W':World} {v:Value} {l:List (List ByteArray)} (h:tP W v l) (hb:Below W.heap.size W W'):tP W' v l:=by
 obtain ⟨a,c,rfl,h1,h2,h|⟨b,off,rfl,hl,hc⟩⟩:=h
 · exact ⟨a,c,rfl,h1,h2,.inl h⟩
 · refine ⟨_,c,rfl,h1,h2,.inr ⟨b,off,rfl,Nat.lt_of_lt_of_le hl hb.size,fun i r hr=> ?_⟩⟩;obtain ⟨u,hu,hr⟩:=hc i r hr;exact ⟨u,(hb.cell (p:=⟨b,_,none⟩) hl).trans hu,hr.below hb⟩
structure YL where
 vp:Value
 vw:Value
 vc:Value
 im:Value
 se:Value
 ar:Value
 ls:List SB
 la:List AB
def aS (y:YL) (m:cX):Array Value:=#[y.vp,.int .i64 m.p.fr,y.vw,y.vc,y.im,.int .u64 m.now,.int .i64 m.sched,.int .i64 m.next,y.se,y.ar,.int .i64 m.owner]
structure cW (W:World) (y:YL) (m:cX):Prop where
 pl:iF W y.vp y.vw y.vc m.p
 im:y.im.oneCell'=true
 se:mL W y.se y.ls
 sl:y.ls.map (·.s)=m.seats
 ar:nM W y.ar y.la
 al:y.la.map (·.l)=m.arr
theorem cW.below {W W':World} {y:YL} {m:cX} (h:cW W y m) (hb:Below W.heap.size W W'):cW W' y m:=⟨h.pl.below hb,h.im,h.se.below hb,h.sl,h.ar.below hb,h.al⟩
theorem dZ:Agg prog 61 11:=gD underlying61 rfl (by kernel_rfl)
theorem zO:Agg prog 53 4:=gD underlying53 rfl (by kernel_rfl)
theorem iX:lX 61:=by decide
theorem qKc {α:Type} {sz:Nat} {f:α→Array Value} {W:World} {v:Value} {l:List α} (h:Rd sz f W v l):v.oneCell'=true:=by
 obtain ⟨_,_,rfl,_⟩:=h.shape;rfl
theorem qPt {W:World} {vp vw vc:Value} {P:Pl.fH} (h:iF W vp vw vc P):vp.oneCell'=true∧vw.oneCell'=true∧vc.oneCell'=true:=by
 refine ⟨qKc h.pa,?_,qKc h.ch⟩;obtain ⟨vp',vw',vc',hv,_,hw,_⟩:=h.pl;unfold eV at hv;injection hv with hv
 simp only [Array.mk.injEq,List.cons.injEq,and_true,true_and] at hv;rw [hv.2.1];obtain ⟨_,_,rfl,_⟩:=hw;rfl
theorem nT {W:World} {y:YL} {m:cX} (h:cW W y m):∀ u ∈ (Value.agg (aS y m)).cells.toList,u.oneCell'=true:=by
 obtain ⟨h1,h2,h3⟩:=qPt h.pl;have h4:=qEk h.se.1;have h5:=qEk h.ar.1;have h6:=h.im;intro u hu;simp only [Value.cells,aS,List.mem_cons,List.not_mem_nil,or_false] at hu;rcases hu with rfl|rfl|rfl|rfl|rfl|rfl|rfl|rfl|rfl|rfl|rfl <;> first|rfl|assumption
def gE (P:Pl.fH) (im:List (List ByteArray)):cX:=
 ⟨P,(List.range P.ps.length).map (fun i=> jP (partOf (P.ps.getD i [])) (im.getD i []) (oG (fD P) i) (lH (fD P) i)),List.replicate P.ps.length [],0,0,0, -1⟩
def eL (who:Nat) (m:cX) (o:Out):cX:=match uR (fD m.p) who o.port with
 |none=> m
 |some (q,j)=> match m.seats[q.toNat]?,m.arr[q.toNat]? with
  |some t,some a=> {m with arr:=m.arr.set q.toNat (a ++ [⟨t.k.now,j,o.body⟩]),seats:=m.seats.set q.toNat (fX t j o.body)}
  |_,_=> m
def mC (who:Nat) (m:cX):cX:=match m.seats[who]? with
 |some s=> if who=0∧0≤s.k.want - 3∧s.k.want - 3<m.p.ws.length then {m with next:=s.k.want - 3} else m
 |none=> m
def lM (who:Nat) (m:cX):cX:=match m.seats[who]? with
 |some s=> mC who ((cP (partOf (m.p.ps.getD who [])) s).k.sent.foldl (eL who) {m with seats:=m.seats.set who (cP (partOf (m.p.ps.getD who [])) s)})
 |none=> m
def gA (m:cX):cX:=if fQ m.p m.sched m.now then (match m.seats[(wAt m.p m.sched m.now).1.toNat]? with
 |some s=> {m with owner:= -1,seats:=m.seats.set (wAt m.p m.sched m.now).1.toNat (fP s)}
 |none=> {m with owner:= -1}) else {m with owner:= -1}
def oQ (m:cX):cX:=if (wAt m.p m.sched m.now).2=2 then (match (gA m).seats[(wAt m.p m.sched m.now).1.toNat]? with
 |some s=> {(if s.st=1 then lM (wAt m.p m.sched m.now).1.toNat (gA m) else gA m) with owner:=(wAt m.p m.sched m.now).1}
 |none=> gA m) else gA m
def qCw (m:cX):cX:=if (m.now + 1) % m.p.fr=0 then {m with now:=m.now + 1,sched:=m.next.toNat} else {m with now:=m.now + 1}
def gY (m:cX):cX:=qCw (oQ m)
def jO:Nat→cX→cX
 |0,m=> m
 |n + 1,m=> jO n (gY m)
end Hy
end Go.Proofs.YtfncknignkndiaaGreatDoor
namespace Go.Proofs.YtfncknignkndiaaGreatDoor
open Tryz
open Go.RowKit KR Kn RegT3
namespace Hy
theorem cW.put {W W':World} {y:YL} {m:cX} (h:cW W y m) {b:Nat} {cs cs':Array Value} {T:TypeId} (hh:W.heap[b]? =some (.cells cs T (0,0))) (hp:Put b cs' T W W') (hpl:iF W' y.vp y.vw y.vc m.p) (hT:lX T) (h1:67 ≠ T) (h2:69 ≠ T) (h3:131 ≠ T):cW W' y m:=
 ⟨hpl,h.im,⟨h.se.1.put hh hp h1,fun x hx=> (h.se.2 x hx).put hh hT hp⟩,h.sl,⟨h.ar.1.put hh hp h2,fun x hx=> (h.ar.2 x hx).put hh hp h3⟩,h.al⟩
theorem uI:One prog 58:=gU underlying58 rfl (by kernel_rfl)
theorem cW.seat {W:World} {y:YL} {m:cX} (h:cW W y m) {i:Nat} {s:dU} (hs:m.seats[i]? =some s):∃ x:SB,y.ls[i]? =some x∧x.s=s∧aH W x.y x.bs s.k:=by
 rw [← h.sl,List.getElem?_map] at hs;obtain ⟨x,hx,rfl⟩:=Option.map_eq_some_iff.1 hs;exact ⟨x,hx,rfl,h.se.2 x (List.mem_of_getElem? hx)⟩
theorem cW.len {W:World} {y:YL} {m:cX} (h:cW W y m):y.ls.length=m.seats.length∧y.la.length=m.arr.length:=by
 rw [← h.sl,← h.al,List.length_map,List.length_map];exact ⟨rfl,rfl⟩
theorem qNh (b c:Nat) (y:YL) (m:cX) (who:Nat) (s:dU) (w:World) (hb:w.heap[b]? =some (.cells (aS y m) 61 (0,0))) (hc:w.heap[c]? =some (.cells #[.int .i64 who] 3 (0,0))) (h:cW w y m) (hs:m.seats[who]? =some s):
 Calls prog 67 #[.pointer (some ⟨b,0,none⟩),.pointer (some ⟨c,0,none⟩)] w (aN (.bool (s.st==1)) w):=by
 obtain ⟨x,hx,hxs,hl⟩:=h.seat hs;obtain ⟨a,cp,hse,_,_⟩:=h.se.1.shape;have hel:=h.se.1;rw [hse] at hel;obtain ⟨g,off,hga,hgl,hcell0⟩:=hel.elem.2.2.2 who x hx;subst hga;have f8:w.cell? ⟨b,8,none⟩=some (.slice (some ⟨g,off,none⟩) y.ls.length cp):=(aC hb 8).trans (congrArg some hse);have fc:w.cell? ⟨c,0,none⟩=some (.int .i64 who):=aC hc 0;have hwl:who<y.ls.length:=(List.getElem?_eq_some_iff.1 hx).1;have hi0:(0:Int)≤(who:Int):=by omega
 have hi1:(who:Int)<(y.ls.length:Int):=by omega
 have HLD:Hid ((Instr.loadAt 67 (.pointer (some ⟨g,off + who * 19,none⟩))).run prog w=.ok (.agg (aY x.y s)) w):=hU (by
  have h1:=cA (W:=w) dN (szSB x) (hcell0 w (Below.refl _ _));rw [show SB.cells x=aY x.y s by unfold SB.cells;rw [hxs]] at h1;exact h1)
 have HG:=hU (qUb (.agg (aY x.y s)) s w ⟨x.y,x.bs,rfl,hl⟩);clear hel hcell0 hse hx hxs hl h hs hb hc;go_in
 repeat' (first
  |(refine aE (t:=67) (v:=.agg (aY x.y s)) rfl rfl rfl HLD.out ?_)
  |go_values|go_skip|go_guarded|refine wg ?_|go_step|go_upon)
 refine HG.out.mono ?_;rintro e W1 ⟨rfl,hb1⟩;have HB1:=hU hb1;clear hb1;dsimp only;refine sg ?_;intros;go_ret;exact cF rfl HB1.out
end Hy
end Go.Proofs.YtfncknignkndiaaGreatDoor
namespace Go.Proofs.YtfncknignkndiaaGreatDoor
open Tryz
open Go.RowKit KR Kn
namespace Hy
def uU (l:List Out):Prop:=∀ o ∈ l,0≤o.port∧o.port≤4294967295∧o.body.size≤140737488355328
structure dP (n:Nat) (m:cX):Prop where
 ck:Pl.check m.p=0
 sl:m.seats.length=m.p.ps.length
 al:m.arr.length=m.p.ps.length
 sg:∀ s ∈ m.seats,iV n s
 ar:∀ a ∈ m.arr,a.length≤n
 sc:m.sched<m.p.ws.length
 nx0:0≤m.next
 nx1:m.next<m.p.ws.length
 nw0:0≤m.now
 nw1:m.now≤n
theorem dP.mono {n k:Nat} {m:cX} (h:dP n m) (hk:n≤k):dP k m:=⟨h.ck,h.sl,h.al,fun s hs=> (h.sg s hs).mono hk,fun a ha=> Nat.le_trans (h.ar a ha) hk,h.sc,h.nx0,h.nx1,h.nw0,by have:=h.nw1;omega⟩
theorem qGz {part:Int}:∀ {r pre:List cS} {p:Int} {x:Int × Int},tG part pre r p=some x→(∃ c ∈ r,x.1=c.dst)∧0≤x.2∧x.2≤((pre.length + r.length:Nat):Int)
 |[],pre,p,x,h=> by cases h
 |c::r,pre,p,x,h=> by
  unfold tG at h
  have lift:tG part (pre ++ [c]) r (p - 1)=some x∨tG part (pre ++ [c]) r p=some x→(∃ c' ∈ c::r,x.1=c'.dst)∧0≤x.2∧x.2≤((pre.length + (c::r).length:Nat):Int):=by
   intro h
   have h':(∃ c' ∈ r,x.1=c'.dst)∧0≤x.2∧x.2≤(((pre ++ [c]).length + r.length:Nat):Int):=by
    rcases h with h|h <;> exact qGz h
   obtain ⟨⟨c',hc,hx⟩,h0,h1⟩:=h';refine ⟨⟨c',List.mem_cons_of_mem _ hc,hx⟩,h0,?_⟩;rw [List.length_append,List.length_singleton] at h1;rw [List.length_cons];omega
  split at h
  · split at h
    · obtain rfl:=Option.some.inj h;have:=List.length_filter_le (fun y:cS=> y.dst==c.dst) pre
      refine ⟨⟨c,List.mem_cons_self ..,rfl⟩,by show (0:Int)≤((lH pre c.dst).length:Int);omega,?_⟩;show ((lH pre c.dst).length:Int)≤_
      unfold lH;rw [List.length_cons];omega
    · exact lift (.inl h)
  · exact lift (.inr h)
theorem qFo {P:Pl.fH} (h:Pl.check P=0):∀ c ∈ fD P,0≤c.dst∧c.dst<P.ps.length∧0≤c.src∧c.src<P.ps.length∧c.src ≠ c.dst∧1≤c.size∧c.size≤32:=by
 intro c hc;obtain ⟨r,hr,rfl⟩:=List.mem_map.1 hc;obtain ⟨k,hk,hrk⟩:=List.getElem_of_mem hr;have h1:=Pl.qRz h hk;rw [List.getD_eq_getElem?_getD,List.getElem?_eq_getElem hk,Option.getD_some,hrk] at h1;obtain ⟨_,h2,h3,h4,h5,h6,h7,h8,_⟩:=Pl.qHm h1;exact ⟨h4,h5,h2,h3,h6,h7,h8⟩
theorem zZ {P:Pl.fH} (hc:Pl.check P=0) (i:Nat):oZ (partOf (P.ps.getD i [])):=by
 have ha:=(Pl.cQ hc).2.2.2.2.2.2.2.2.1;rw [List.any_eq_false] at ha;rw [List.getD_eq_getElem?_getD];cases h:P.ps[i]? with
 |none=> exact ⟨by decide,by decide⟩
 |some r=>
  have:=ha r (List.mem_of_getElem? h)
  simp only [Pl.nH,Bool.not_eq_true,Bool.not_eq_false',Bool.and_eq_true,decide_eq_true_eq] at this;exact ⟨by show _≤Pl.g r 0;omega,by show Pl.g r 0≤_;omega⟩
theorem qTl {P:Pl.fH} (h:Pl.check P=0) {part port:Int} {x:Int × Int} (ht:uR (fD P) part port=some x):0≤x.1∧x.1<P.ps.length∧0≤x.2∧x.2≤6:=by
 unfold uR at ht;split at ht
 · cases ht
 · obtain ⟨⟨c,hc,hx⟩,h0,h1⟩:=qGz ht;obtain ⟨h2,h3,_⟩:=qFo h c hc;have h6:=(Pl.cQ h).2.2.2.2.1;rw [hx];refine ⟨h2,h3,h0,?_⟩;unfold fD at h1;rw [List.length_map] at h1;simp only [List.length_nil,Nat.zero_add] at h1;omega
theorem qO (who:Nat) (m:cX) (o:Out):(eL who m o).p=m.p∧(eL who m o).sched=m.sched∧(eL who m o).next=m.next∧(eL who m o).now=m.now∧(eL who m o).owner=m.owner:=by
 unfold eL;split
 · exact ⟨rfl,rfl,rfl,rfl,rfl⟩
 · split <;> exact ⟨rfl,rfl,rfl,rfl,rfl⟩
theorem dP.send {n:Nat} {m:cX} (h:dP n m) (who:Nat) (o:Out) (ho:o.body.size≤140737488355328):dP (n + 1) (eL who m o):=by
 unfold eL;split
 · exact h.mono (Nat.le_succ n)
 · next q j hq=>
   split
   · next t a ht ha=>
     refine ⟨h.ck,by show (m.seats.set _ _).length=_;rw [List.length_set];exact h.sl,by show (m.arr.set _ _).length=_;rw [List.length_set];exact h.al,fun s hs=> ?_,fun b hb=> ?_,h.sc,h.nx0,h.nx1,h.nw0,by have:=h.nw1;show m.now≤_;omega⟩
     · rcases List.mem_or_eq_of_mem_set hs with hs|rfl
       · exact (h.sg s hs).mono (Nat.le_succ n)
       · exact (h.sg t (List.mem_of_getElem? ht)).dI j o.body ho
     · rcases List.mem_or_eq_of_mem_set hb with hb|rfl
       · exact Nat.le_succ_of_le (h.ar b hb)
       · rw [List.length_append,List.length_singleton];have:=h.ar a (List.mem_of_getElem? ha)
         omega
   · exact h.mono (Nat.le_succ n)
theorem dP.gZ {who:Nat}:∀ {l:List Out} {n:Nat} {m:cX},dP n m→uU l→dP (n + l.length) (l.foldl (eL who) m)
 |[],n,m,h,_=> h
 |o::l,n,m,h,hl=> by
  have h1:=(h.send who o (hl o (List.mem_cons_self ..)).2.2).gZ (who:=who) (l:=l) (fun x hx=> hl x (List.mem_cons_of_mem _ hx));rw [List.length_cons,show n + (l.length + 1)=n + 1 + l.length by omega];exact h1
theorem qIn {who:Nat} {l:List Out} {i:Nat} {o:Out} (m:cX) (h:l[i]? =some o):(l.take (i + 1)).foldl (eL who) m=eL who ((l.take i).foldl (eL who) m) o:=by
 rw [List.take_add_one,h,Option.toList_some,List.foldl_append];rfl
