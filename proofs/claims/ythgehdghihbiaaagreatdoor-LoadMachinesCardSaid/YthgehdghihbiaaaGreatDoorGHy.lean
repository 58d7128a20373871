/- A message that arrived, as it lies. No condition. slices.Clone of rows of seats, and of rows of rows of stamps; hyper.set at both. Conditions: few; each thing's cells are such as Go keeps. window.cycle: a time's cycle of the frame. Conditions: a plan whose frame is one. route.Outs and Ins: a partition's channels. Conditions: channels as they are read; few. A machine as it lies, and a machine in plain Lean. No condition. What a machine's parts keep; hyper.Step's question whether a seat goes. Conditions: a machine as it lies; a seat that there is. A machine that may be, in plain Lean. No condition. -/
import Derived.Test.YthgehdghihbiaaaGreatDoorGSe0
import Derived.Test.YthgehdghihbiaaaGreatDoorGPl
set_option linter.unusedVariables false
set_option maxRecDepth 100000
set_option maxHeartbeats 8000000
set_option linter.unusedSimpArgs false
namespace Go.Proofs.YthgehdghihbiaaaGreatDoor
open Go.RowKit
namespace Kn
structure Stamp where
 at_:Int
 port:Int
 body:ByteArray
def Stamp.cells (a:Stamp):Array Value:=#[.int .u64 a.at_,.int .i64 a.port,.string a.body]
instance:Inhabited Stamp:=⟨⟨0,0,ByteArray.empty⟩⟩
end Kn
end Go.Proofs.YthgehdghihbiaaaGreatDoor
namespace Go.Proofs.YthgehdghihbiaaaGreatDoor
open Go.RowKit KR Kn
namespace Hy
structure SB where
 y:Lay
 bs:List BoxV
 s:Seat
def SB.cells (x:SB):Array Value:=scells x.y x.s
theorem szSB:∀ x:SB,(SB.cells x).size=19:=fun _=> rfl
structure AB where
 v:Value
 l:List Stamp
def AB.cells (x:AB):Array Value:=#[x.v]
theorem szAB:∀ x:AB,(AB.cells x).size=1:=fun _=> rfl
theorem cell_lt' {w:World} {a:Addr} {v:Value} (h:w.cell? a=some v):a.block<w.heap.size:=by
 rcases Nat.lt_or_ge a.block w.heap.size with h'|h'
 · exact h'
 · simp [World.cell?,Array.getElem?_eq_none h'] at h
def SeatsAt (W:World) (v:Value) (l:List SB):Prop:=Sl 72 19 SB.cells W v l∧∀ x ∈ l,LayAt W x.y x.bs x.s.k
theorem SeatsAt.below {W W':World} {v:Value} {l:List SB} (h:SeatsAt W v l) (hb:Below W.heap.size W W'):SeatsAt W' v l:=⟨h.1.below hb,fun x hx=> (h.2 x hx).below hb⟩
def ArrAt (W:World) (v:Value) (l:List AB):Prop:=Sl 74 1 AB.cells W v l∧∀ x ∈ l,Sl 126 3 Stamp.cells W x.v x.l
theorem ArrAt.below {W W':World} {v:Value} {l:List AB} (h:ArrAt W v l) (hb:Below W.heap.size W W'):ArrAt W' v l:=⟨h.1.below hb,fun x hx=> (h.2 x hx).below hb⟩
theorem ones_sl {α:Type} {E:TypeId} {sz:Nat} {f:α→Array Value} {W:World} {v:Value} {l:List α} (h:Sl E sz f W v l):v.oneCell'=true:=by
 obtain ⟨_,_,rfl,_⟩:=h.shape
 rfl
theorem oneSts:One Tryz.prog 74:=one_of Tryz.underlying74 rfl (by kernel_rfl)
end Hy
end Go.Proofs.YthgehdghihbiaaaGreatDoor
namespace Go.Proofs.YthgehdghihbiaaaGreatDoor
open Go.RowKit KR
namespace Hy
def pcells (vp vw vc:Value) (fr:Int):Array Value:=#[vp,.int .i64 fr,vw,vc]
end Hy
end Go.Proofs.YthgehdghihbiaaaGreatDoor
namespace Go.Proofs.YthgehdghihbiaaaGreatDoor
open Go.RowKit KR Kn
namespace Hy
def outsOf (cs:List Chan) (i:Int):List Chan:=cs.filter (fun c=> c.src==i)
def insOf (cs:List Chan) (i:Int):List Chan:=cs.filter (fun c=> c.dst==i)
theorem ROuts1 (x:Chan) (b:Nat) (i:Int) (w:World) (hb:w.cell? ⟨b,0,none⟩=some (.int .i64 i)) (hl:b<w.heap.size):
 Calls Tryz.prog 64 #[.agg x.cells,.pointer (some ⟨b,0,none⟩)] w (Gives (.bool (x.src==i)) w):=by
 unfold Chan.cells
 go_enter Tryz.func64,Tryz.ntmps64
 repeat' (first|go_values|go_skip|go_guarded|(with_reducible refine wg ?_)|go_step|go_upon)
 go_ret
 exact gives_of rfl bel
theorem RIns1 (x:Chan) (b:Nat) (i:Int) (w:World) (hb:w.cell? ⟨b,0,none⟩=some (.int .i64 i)) (hl:b<w.heap.size):
 Calls Tryz.prog 65 #[.agg x.cells,.pointer (some ⟨b,0,none⟩)] w (Gives (.bool (x.dst==i)) w):=by
 unfold Chan.cells
 go_enter Tryz.func65,Tryz.ntmps65
 repeat' (first|go_values|go_skip|go_guarded|(with_reducible refine wg ?_)|go_step|go_upon)
 go_ret
 exact gives_of rfl bel
theorem RSome1 (x:Chan) (b:Nat) (F:FuncId) (cap:Value) (pr:Chan→Bool) (B:Nat) (w0 w:World) (hb:w.cell? ⟨b,0,none⟩=some (.func (.func F) #[] #[cap])) (hl:b<w.heap.size) (hw:Below B w0 w) (hB:B≤w.heap.size) (hen:Enters Tryz.prog F) (hF:∀ x W,Below B w0 W→Calls Tryz.prog F #[.agg (Chan.cells x),cap] W (Gives (.bool (pr x)) W)):
 Calls Tryz.prog 94 #[.agg x.cells,.pointer (some ⟨b,0,none⟩)] w (Gives (.bool (!pr x)) w):=by
 have HF:=hU (fun W h=> hF x W h)
 have HEN:=hU hen
 have HW:=hU hw
 clear hF hen hw
 unfold Chan.cells at *
 go_enter Tryz.func94,Tryz.ntmps94
 repeat' (first|go_values|go_skip|go_guarded|(with_reducible refine wg ?_)|go_step|go_upon)
 rw [HEN.out]
 dsimp only [Oper.upon]
 refine (HF.out _ (HW.out.trans ((Below.refl w.heap.size w).alloc (Nat.le_refl _) _|>.mono hB))).mono ?_
 rintro e W1 ⟨rfl,hb1⟩
 dsimp only
 repeat' (first|go_values|go_skip|go_guarded|(with_reducible refine wg ?_)|go_step|go_upon)
 go_ret
 exact gives_of rfl (((Below.refl _ _).alloc (Nat.le_refl _) _).trans (hb1.mono (by simp)))
theorem enSome1:Enters Tryz.prog 94:=enters_of Tryz.func94 (by kernel_rfl) rfl
theorem enOuts1:Enters Tryz.prog 64:=enters_of Tryz.func64 (by kernel_rfl) rfl
theorem enIns1:Enters Tryz.prog 65:=enters_of Tryz.func65 (by kernel_rfl) rfl
theorem RSome (vp vw vc:Value) (fr:Int) (cs:List Chan) (F:FuncId) (cap:Value) (pr:Chan→Bool) (w:World) (hc:Rd 5 Chan.cells w vc cs) (hn:cs.length≤1000000) (hen:Enters Tryz.prog F) (hF:∀ x W,Below w.heap.size w W→Calls Tryz.prog F #[.agg (Chan.cells x),cap] W (Gives (.bool (pr x)) W)):
 Calls Tryz.prog 63 #[.agg #[vp,.int .i64 fr,vw,vc],.func (.func F) #[] #[cap]] w (fun e w'=> ∃ v,e=.returned v∧KR.Own 101 5 Chan.cells w.heap.size w' v (cs.filter pr)∧Below w.heap.size w w'):=by
 obtain ⟨a,c,rfl,_,_⟩:=hc.shape
 obtain ⟨q0,q1⟩:=two_new w w.heap.size (.cells #[vp,.int .i64 fr,vw,.slice a cs.length c] 27) (.cells #[.func (.func F) #[] #[cap]] 146) rfl
 have hb0:Below w.heap.size w ((w.alloc (.cells #[vp,.int .i64 fr,vw,.slice a cs.length c] 27)).alloc (.cells #[.func (.func F) #[] #[cap]] 146)):=bel
 have hsz:((w.alloc (.cells #[vp,.int .i64 fr,vw,.slice a cs.length c] 27)).alloc (.cells #[.func (.func F) #[] #[cap]] 146)).heap.size=w.heap.size + 2:=by simp
 obtain ⟨W0,hW0⟩:∃ W0,(w.alloc (.cells #[vp,.int .i64 fr,vw,.slice a cs.length c] 27)).alloc (.cells #[.func (.func F) #[] #[cap]] 146)=W0:=⟨_,rfl⟩
 rw [hW0] at q0 q1 hb0 hsz
 have HC:=hU (cloneChanR _ cs W0 (hc.below hb0) (by omega))
 have p3:W0.cell? ⟨w.heap.size,3,none⟩=some (.slice a cs.length c):=hcell q0 3
 have HB0:=hU hb0
 have HQ1:=hU q1
 have HF:=hU hF
 have HEN:=hU hen
 clear hF hen hc q0 q1 hb0
 go_enter Tryz.func63,Tryz.ntmps63
 repeat' (first|(rw [hW0];clear hW0)|go_values|go_skip|go_guarded|(with_reducible refine wg ?_)|go_step|go_upon)
 refine HC.out.mono ?_
 rintro e W1 ⟨v1,rfl,hown,hb1⟩
 have hz1:=hb1.size
 have h1:=(hb1.block _ (by omega)).trans HQ1.out
 have hb01:Below w.heap.size w W1:=HB0.out.trans (hb1.mono (by omega))
 have HD:=hU (delChan v1 cs (fun x=> !pr x) 94 (.pointer (some ⟨w.heap.size + 1,0,none⟩)) W0.heap.size W1 hown (by omega) enSome1
  (fun x W hb=> RSome1 x (w.heap.size + 1) F cap pr w.heap.size w W (hcell ((hb.block _ (by omega)).trans h1) 0) (by have:=hb.size;omega) (hb01.trans (hb.mono (by omega))) (by have:=hb.size;omega) HEN.out HF.out))
 have HB1:=hU hb01
 obtain ⟨a1,c1,rfl,_,_⟩:=(hown.sl szChan).shape
 clear hown hb1 hb01 h1
 dsimp only
 repeat' (first|(go_at_call 93;refine HD.out.mono ?_;rintro e w2 ⟨v2,rfl,hown2,hb2⟩;dsimp only)|go_values|go_skip|go_guarded|(with_reducible refine wg ?_)|go_step|go_upon)
 go_ret
 have he:cs.filter (fun x=> !!pr x)=cs.filter pr:=by simp
 rw [he] at hown2
 exact ⟨_,rfl,KR.Own.mono hown2 (by omega),HB1.out.trans (hb2.mono (by omega))⟩
theorem ROuts (vp vw vc:Value) (fr i:Int) (cs:List Chan) (w:World) (hc:Rd 5 Chan.cells w vc cs) (hn:cs.length≤1000000):
 Calls Tryz.prog 33 #[.agg #[vp,.int .i64 fr,vw,vc],.int .i64 i] w (fun e w'=> ∃ v,e=.returned v∧KR.Own 101 5 Chan.cells w.heap.size w' v (outsOf cs i)∧Below w.heap.size w w'):=by
 obtain ⟨q0,q1⟩:=two_new w w.heap.size (.cells #[vp,.int .i64 fr,vw,vc] 27) (.cells #[.int .i64 i] 3) rfl
 have hb0:Below w.heap.size w ((w.alloc (.cells #[vp,.int .i64 fr,vw,vc] 27)).alloc (.cells #[.int .i64 i] 3)):=bel
 have hsz:((w.alloc (.cells #[vp,.int .i64 fr,vw,vc] 27)).alloc (.cells #[.int .i64 i] 3)).heap.size=w.heap.size + 2:=by simp
 obtain ⟨W0,hW0⟩:∃ W0,(w.alloc (.cells #[vp,.int .i64 fr,vw,vc] 27)).alloc (.cells #[.int .i64 i] 3)=W0:=⟨_,rfl⟩
 rw [hW0] at q0 q1 hb0 hsz
 have HS:=hU (RSome vp vw vc fr cs 64 (.pointer (some ⟨w.heap.size + 1,0,none⟩)) (fun x=> x.src==i) W0 (hc.below hb0) hn enOuts1
  (fun x W hb=> ROuts1 x (w.heap.size + 1) i W (hcell ((hb.block _ (by omega)).trans q1) 0) (by have:=hb.size;omega)))
 have p0:W0.cell? ⟨w.heap.size,0,none⟩=some vp:=hcell q0 0
 have p1:W0.cell? ⟨w.heap.size,1,none⟩=some (.int .i64 fr):=hcell q0 1
 have p2:W0.cell? ⟨w.heap.size,2,none⟩=some vw:=hcell q0 2
 have p3:W0.cell? ⟨w.heap.size,3,none⟩=some vc:=hcell q0 3
 have HB0:=hU hb0
 clear hc q0 q1 hb0
 go_enter Tryz.func33,Tryz.ntmps33
 repeat' (first|(rw [hW0];clear hW0)|go_values|go_skip|go_guarded|(with_reducible refine wg ?_)|go_step|go_upon)
 refine HS.out.mono ?_
 rintro e W1 ⟨v1,rfl,hown,hb1⟩
 obtain ⟨a1,c1,rfl,_,_⟩:=(hown.sl szChan).shape
 have HO:=hU hown
 have HB1:=hU (HB0.out.trans (hb1.mono (by omega)))
 clear hown hb1
 dsimp only
 repeat' (first|go_values|go_skip|go_guarded|(with_reducible refine wg ?_)|go_step|go_upon)
 go_ret
 exact ⟨_,rfl,KR.Own.mono HO.out (by omega),HB1.out⟩
theorem RIns (vp vw vc:Value) (fr i:Int) (cs:List Chan) (w:World) (hc:Rd 5 Chan.cells w vc cs) (hn:cs.length≤1000000):
 Calls Tryz.prog 34 #[.agg #[vp,.int .i64 fr,vw,vc],.int .i64 i] w (fun e w'=> ∃ v,e=.returned v∧KR.Own 101 5 Chan.cells w.heap.size w' v (insOf cs i)∧Below w.heap.size w w'):=by
 obtain ⟨q0,q1⟩:=two_new w w.heap.size (.cells #[vp,.int .i64 fr,vw,vc] 27) (.cells #[.int .i64 i] 3) rfl
 have hb0:Below w.heap.size w ((w.alloc (.cells #[vp,.int .i64 fr,vw,vc] 27)).alloc (.cells #[.int .i64 i] 3)):=bel
 have hsz:((w.alloc (.cells #[vp,.int .i64 fr,vw,vc] 27)).alloc (.cells #[.int .i64 i] 3)).heap.size=w.heap.size + 2:=by simp
 obtain ⟨W0,hW0⟩:∃ W0,(w.alloc (.cells #[vp,.int .i64 fr,vw,vc] 27)).alloc (.cells #[.int .i64 i] 3)=W0:=⟨_,rfl⟩
 rw [hW0] at q0 q1 hb0 hsz
 have HS:=hU (RSome vp vw vc fr cs 65 (.pointer (some ⟨w.heap.size + 1,0,none⟩)) (fun x=> x.dst==i) W0 (hc.below hb0) hn enIns1
  (fun x W hb=> RIns1 x (w.heap.size + 1) i W (hcell ((hb.block _ (by omega)).trans q1) 0) (by have:=hb.size;omega)))
 have p0:W0.cell? ⟨w.heap.size,0,none⟩=some vp:=hcell q0 0
 have p1:W0.cell? ⟨w.heap.size,1,none⟩=some (.int .i64 fr):=hcell q0 1
 have p2:W0.cell? ⟨w.heap.size,2,none⟩=some vw:=hcell q0 2
 have p3:W0.cell? ⟨w.heap.size,3,none⟩=some vc:=hcell q0 3
 have HB0:=hU hb0
 clear hc q0 q1 hb0
 go_enter Tryz.func34,Tryz.ntmps34
 repeat' (first|(rw [hW0];clear hW0)|go_values|go_skip|go_guarded|(with_reducible refine wg ?_)|go_step|go_upon)
 refine HS.out.mono ?_
 rintro e W1 ⟨v1,rfl,hown,hb1⟩
 obtain ⟨a1,c1,rfl,_,_⟩:=(hown.sl szChan).shape
 have HO:=hU hown
 have HB1:=hU (HB0.out.trans (hb1.mono (by omega)))
 clear hown hb1
 dsimp only
 repeat' (first|go_values|go_skip|go_guarded|(with_reducible refine wg ?_)|go_step|go_upon)
 go_ret
 exact ⟨_,rfl,KR.Own.mono HO.out (by omega),HB1.out⟩
def partOf (r:List Int):Part:=⟨Pl.g r 0,Pl.g r 1,Pl.g r 2,Pl.g r 3⟩
def chanOf (r:List Int):Chan:=⟨Pl.g r 0,Pl.g r 1,Pl.g r 2,Pl.g r 3,Pl.g r 4⟩
def chans (P:Pl.Plan):List Chan:=P.cs.map chanOf
def parts (P:Pl.Plan):List Part:=P.ps.map partOf
theorem parts_at {P:Pl.Plan} {who:Nat} (h:who<P.ps.length):(parts P)[who]? =some (partOf (P.ps.getD who [])):=by
 unfold parts
 rw [List.getElem?_map,List.getD_eq_getElem?_getD,List.getElem?_eq_getElem h]
 rfl
structure Mach where
 p:Pl.Plan
 seats:List Seat
 arr:List (List Stamp)
 now:Int
 sched:Nat
 next:Int
 owner:Int
structure PlanR (W:World) (vp vw vc:Value) (P:Pl.Plan):Prop where
 pl:PlanAt W (.agg (pcells vp vw vc P.fr)) P
 ch:Rd 5 Chan.cells W vc (chans P)
 pa:Rd 4 Part.cells W vp (parts P)
theorem PlanR.below {W W':World} {vp vw vc:Value} {P:Pl.Plan} (h:PlanR W vp vw vc P) (hb:Below W.heap.size W W'):PlanR W' vp vw vc P:=⟨h.pl.below hb,h.ch.below hb,h.pa.below hb⟩
def ImgAt (W:World) (v:Value) (l:List (List ByteArray)):Prop:=
 ∃ a c,v=.slice a l.length c∧l.length≤c∧c≤9223372036854775807∧(l=[]∨∃ b off,a=some ⟨b,off,none⟩∧b<W.heap.size∧∀ i r,l[i]? =some r→∃ u,W.cell? ⟨b,off + i,none⟩=some u∧Rd 1 strCells W u r)
theorem ImgAt.below {W W':World} {v:Value} {l:List (List ByteArray)} (h:ImgAt W v l) (hb:Below W.heap.size W W'):ImgAt W' v l:=by
 obtain ⟨a,c,rfl,h1,h2,h|⟨b,off,rfl,hl,hc⟩⟩:=h
 · exact ⟨a,c,rfl,h1,h2,.inl h⟩
 · refine ⟨_,c,rfl,h1,h2,.inr ⟨b,off,rfl,Nat.lt_of_lt_of_le hl hb.size,fun i r hr=> ?_⟩⟩
   obtain ⟨u,hu,hr⟩:=hc i r hr
   exact ⟨u,(hb.cell (p:=⟨b,_,none⟩) hl).trans hu,hr.below hb⟩
structure YL where
 vp:Value
 vw:Value
 vc:Value
 im:Value
 se:Value
 ar:Value
 ls:List SB
 la:List AB
def ycells (y:YL) (m:Mach):Array Value:=#[y.vp,.int .i64 m.p.fr,y.vw,y.vc,y.im,.int .u64 m.now,.int .i64 m.sched,.int .i64 m.next,y.se,y.ar,.int .i64 m.owner]
structure SysAt (W:World) (y:YL) (m:Mach):Prop where
 pl:PlanR W y.vp y.vw y.vc m.p
 im:y.im.oneCell'=true
 se:SeatsAt W y.se y.ls
 sl:y.ls.map (·.s)=m.seats
 ar:ArrAt W y.ar y.la
 al:y.la.map (·.l)=m.arr
theorem SysAt.below {W W':World} {y:YL} {m:Mach} (h:SysAt W y m) (hb:Below W.heap.size W W'):SysAt W' y m:=⟨h.pl.below hb,h.im,h.se.below hb,h.sl,h.ar.below hb,h.al⟩
theorem aggSys:Agg Tryz.prog 33 11:=agg_of Tryz.underlying33 rfl (by kernel_rfl)
theorem aggPlan:Agg Tryz.prog 27 4:=agg_of Tryz.underlying27 rfl (by kernel_rfl)
theorem noSys:noRow 33:=by decide
theorem ones_rd {α:Type} {sz:Nat} {f:α→Array Value} {W:World} {v:Value} {l:List α} (h:Rd sz f W v l):v.oneCell'=true:=by
 obtain ⟨_,_,rfl,_⟩:=h.shape
 rfl
theorem onesPl {W:World} {vp vw vc:Value} {P:Pl.Plan} (h:PlanR W vp vw vc P):vp.oneCell'=true∧vw.oneCell'=true∧vc.oneCell'=true:=by
 refine ⟨ones_rd h.pa,?_,ones_rd h.ch⟩
 obtain ⟨vp',vw',vc',hv,_,hw,_⟩:=h.pl
 unfold pcells at hv
 injection hv with hv
 simp only [Array.mk.injEq,List.cons.injEq,and_true,true_and] at hv
 rw [hv.2.1]
 obtain ⟨_,_,rfl,_⟩:=hw
 rfl
theorem onesY {W:World} {y:YL} {m:Mach} (h:SysAt W y m):∀ u ∈ (Value.agg (ycells y m)).cells.toList,u.oneCell'=true:=by
 obtain ⟨h1,h2,h3⟩:=onesPl h.pl
 have h4:=ones_sl h.se.1
 have h5:=ones_sl h.ar.1
 have h6:=h.im
 intro u hu
 simp only [Value.cells,ycells,List.mem_cons,List.not_mem_nil,or_false] at hu
 rcases hu with rfl|rfl|rfl|rfl|rfl|rfl|rfl|rfl|rfl|rfl|rfl <;> first|rfl|assumption
def mbegin (P:Pl.Plan) (im:List (List ByteArray)):Mach:=
 ⟨P,(List.range P.ps.length).map (fun i=> sbegin (partOf (P.ps.getD i [])) (im.getD i []) (outsOf (chans P) i) (insOf (chans P) i)),List.replicate P.ps.length [],0,0,0, -1⟩
end Hy
end Go.Proofs.YthgehdghihbiaaaGreatDoor
namespace Go.Proofs.YthgehdghihbiaaaGreatDoor
open Go.RowKit KR Kn RegT3
namespace Hy
theorem SysAt.put {W W':World} {y:YL} {m:Mach} (h:SysAt W y m) {b:Nat} {cs cs':Array Value} {T:TypeId} (hh:W.heap[b]? =some (.cells cs T (0,0))) (hp:Put b cs' T W W') (hpl:PlanR W' y.vp y.vw y.vc m.p) (hT:noRow T) (h1:72 ≠ T) (h2:74 ≠ T) (h3:126 ≠ T):SysAt W' y m:=
 ⟨hpl,h.im,⟨h.se.1.put hh hp h1,fun x hx=> (h.se.2 x hx).put hh hT hp⟩,h.sl,⟨h.ar.1.put hh hp h2,fun x hx=> (h.ar.2 x hx).put hh hp h3⟩,h.al⟩
theorem oneSeats:One Tryz.prog 30:=one_of Tryz.underlying30 rfl (by kernel_rfl)
theorem SysAt.seat {W:World} {y:YL} {m:Mach} (h:SysAt W y m) {i:Nat} {s:Seat} (hs:m.seats[i]? =some s):∃ x:SB,y.ls[i]? =some x∧x.s=s∧LayAt W x.y x.bs s.k:=by
 rw [← h.sl,List.getElem?_map] at hs
 obtain ⟨x,hx,rfl⟩:=Option.map_eq_some_iff.1 hs
 exact ⟨x,hx,rfl,h.se.2 x (List.mem_of_getElem? hx)⟩
theorem SysAt.len {W:World} {y:YL} {m:Mach} (h:SysAt W y m):y.ls.length=m.seats.length∧y.la.length=m.arr.length:=by
 rw [← h.sl,← h.al,List.length_map,List.length_map]
 exact ⟨rfl,rfl⟩
end Hy
end Go.Proofs.YthgehdghihbiaaaGreatDoor
namespace Go.Proofs.YthgehdghihbiaaaGreatDoor
open Go.RowKit KR Kn
namespace Hy
theorem part_ok {P:Pl.Plan} (hc:Pl.check P=0) (i:Nat):PartOk (partOf (P.ps.getD i [])):=by
 have ha:=(Pl.check_zero hc).2.2.2.2.2.2.2.2.1
 rw [List.any_eq_false] at ha
 rw [List.getD_eq_getElem?_getD]
 cases h:P.ps[i]? with
 |none=> exact ⟨by decide,by decide⟩
 |some r=>
  have:=ha r (List.mem_of_getElem? h)
  simp only [Pl.partB,Bool.not_eq_true,Bool.not_eq_false',Bool.and_eq_true,decide_eq_true_eq] at this
  exact ⟨by show _≤Pl.g r 0;omega,by show Pl.g r 0≤_;omega⟩
end Hy
end Go.Proofs.YthgehdghihbiaaaGreatDoor
