/- What the law is asked of, as it comes in. No condition. The law DedAhead: it answers true. Conditions: rows that there can be; the table of the instructions' parts lies there. The card of DedAhead: a run hangs on the stamps up to its end alone, with other ones behind it is the same; for every partition, few images, 100 stamps and 200 cycles at most. -/
import Derived.Test.YtkepkcjjenidgaaGreatDoorGDe
import Derived.Test.YtkepkcjjenidgaaGreatDoorKApp
import Derived.Test.YtkepkcjjenidgaaGreatDoorGSame
import Derived.Test.YtkepkcjjenidgaaGreatDoorGCard
set_option linter.unusedVariables false
set_option maxRecDepth 100000
set_option maxHeartbeats 8000000
set_option linter.unusedSimpArgs false
namespace Go.Proofs.YtkepkcjjenidgaaGreatDoor
open Go.ChangeShapes Go.WideShapes Go.ChangeAt Go.RowKit Go.Joins Go.Deep KR
namespace Kn
section
variable {H:Type} {enc:TypeId × Value→H} {w:World} {base b:Nat} {sp:Nat→Bool} {hd:Bool} {r:Reach}
def dacells (g:SGuest) (iv ov nv lv mv:Value) (n:Int):Array Value:=#[.int .i64 g.x.mem,.int .i64 g.x.a1,.int .i64 g.x.a2,.int .i64 g.x.a3,iv,ov,nv,lv,mv,.int .i64 n]
theorem cells_dguest:Tryz.prog.cellsOf 88=7:=by kernel_rfl
theorem open_dg {fuel:Nat} {c0 c1 c2 c3 c4 c5 c6:Value} {x:DataW H × List MemPlace} (h:DataW.trod enc Tryz.prog w b sp hd fuel 88 [c0,c1,c2,c3,c4,c5,c6]=some x):
 ∃ g:SGuest,c0=.int .i64 g.x.mem∧c1=.int .i64 g.x.a1∧c2=.int .i64 g.x.a2∧c3=.int .i64 g.x.a3∧Rd 1 strCells w c4 g.images∧Rd 5 Chan.cells w c5 g.outs∧Rd 5 Chan.cells w c6 g.ins_∧PartOk g.x:=by
 obtain ⟨xs,n,_,_,_,hl,hgg⟩:=DataW.trod_struct Tryz.underlying88 h
 have hx:xs.length=4:=hl
 have g0':DataW.trod enc Tryz.prog w b sp hd n 64 (([c0,c1,c2,c3,c4,c5,c6].drop 0).take (Tryz.prog.cellsOf 64))=xs[0]? :=hgg 0 _ rfl
 rw [List.getElem?_eq_getElem (by omega),cells_part] at g0'
 have g0:DataW.trod enc Tryz.prog w b sp hd n 64 [c0,c1,c2,c3]=some (xs[0]'(by omega)):=g0'
 have g1':DataW.trod enc Tryz.prog w b sp hd n 51 (([c0,c1,c2,c3,c4,c5,c6].drop 4).take (Tryz.prog.cellsOf 51))=xs[1]? :=hgg 1 _ rfl
 rw [List.getElem?_eq_getElem (by omega),cells_strs] at g1'
 have g1:DataW.trod enc Tryz.prog w b sp hd n 51 [c4]=some (xs[1]'(by omega)):=g1'
 have g2':DataW.trod enc Tryz.prog w b sp hd n 24 (([c0,c1,c2,c3,c4,c5,c6].drop 5).take (Tryz.prog.cellsOf 24))=xs[2]? :=hgg 2 _ rfl
 rw [List.getElem?_eq_getElem (by omega),cells_chans] at g2'
 have g2:DataW.trod enc Tryz.prog w b sp hd n 24 [c5]=some (xs[2]'(by omega)):=g2'
 have g3':DataW.trod enc Tryz.prog w b sp hd n 24 (([c0,c1,c2,c3,c4,c5,c6].drop 6).take (Tryz.prog.cellsOf 24))=xs[3]? :=hgg 3 _ rfl
 rw [List.getElem?_eq_getElem (by omega),cells_chans] at g3'
 have g3:DataW.trod enc Tryz.prog w b sp hd n 24 [c6]=some (xs[3]'(by omega)):=g3'
 obtain ⟨p,rfl,rfl,rfl,rfl,hp⟩:=open_part g0
 obtain ⟨iv,im,hi,hi2⟩:=open_strs g1
 obtain ⟨ov,ou,ho,ho2⟩:=open_chans g2
 obtain ⟨nv,ni,hn,hn2⟩:=open_chans g3
 obtain rfl:c4=iv:=by injection hi
 obtain rfl:c5=ov:=by injection ho
 obtain rfl:c6=nv:=by injection hn
 exact ⟨⟨p,im,ou,ni⟩,rfl,rfl,rfl,rfl,hi2,ho2,hn2,hp⟩
theorem cells_din:Tryz.prog.cellsOf 90=10:=by kernel_rfl
theorem open_ahead {v:Value} {d:DataW H} {p:List MemPlace} (hv:Value.okWide Tryz.prog w r base 90 v) (h:DataW.Trod enc Tryz.prog w b sp hd 90 v d p):
 ∃ g iv ov nv lv mv l more n,v=.agg (dacells g iv ov nv lv mv n)∧Rd 1 strCells w iv g.images∧Rd 5 Chan.cells w ov g.outs∧Rd 5 Chan.cells w nv g.ins_∧Rd 3 Stamp.cells w lv l∧Rd 3 Stamp.cells w mv more∧PartOk g.x∧(∀ a ∈ l,a.body.size ∈ d.weights Tryz.prog 90)∧∀ a ∈ more,a.body.size ∈ d.weights Tryz.prog 90:=by
 obtain ⟨cs,rfl,hsz⟩:=okWide_struct Tryz.underlying90 hv
 rw [cells_din] at hsz
 obtain ⟨fuel,hf⟩:=h
 obtain ⟨l0⟩:=cs
 match l0,hsz with
 |[c0,c1,c2,c3,c4,c5,c6,c7,c8,c9],_=>
  obtain ⟨xs,n,_,hx2,_,hlen,hge⟩:=DataW.trod_struct Tryz.underlying90 hf
  have hx:xs.length=4:=hlen
  have e0':DataW.trod enc Tryz.prog w b sp hd n 88 (([c0,c1,c2,c3,c4,c5,c6,c7,c8,c9].drop 0).take (Tryz.prog.cellsOf 88))=xs[0]? :=hge 0 _ rfl
  rw [List.getElem?_eq_getElem (by omega),cells_dguest] at e0'
  have e0:DataW.trod enc Tryz.prog w b sp hd n 88 [c0,c1,c2,c3,c4,c5,c6]=some (xs[0]'(by omega)):=e0'
  have e1':DataW.trod enc Tryz.prog w b sp hd n 60 (([c0,c1,c2,c3,c4,c5,c6,c7,c8,c9].drop 7).take (Tryz.prog.cellsOf 60))=xs[1]? :=hge 1 _ rfl
  rw [List.getElem?_eq_getElem (by omega),cells_sts] at e1'
  have e1:DataW.trod enc Tryz.prog w b sp hd n 60 [c7]=some (xs[1]'(by omega)):=e1'
  have e2':DataW.trod enc Tryz.prog w b sp hd n 60 (([c0,c1,c2,c3,c4,c5,c6,c7,c8,c9].drop 8).take (Tryz.prog.cellsOf 60))=xs[2]? :=hge 2 _ rfl
  rw [List.getElem?_eq_getElem (by omega),cells_sts] at e2'
  have e2:DataW.trod enc Tryz.prog w b sp hd n 60 [c8]=some (xs[2]'(by omega)):=e2'
  have e3':DataW.trod enc Tryz.prog w b sp hd n 3 (([c0,c1,c2,c3,c4,c5,c6,c7,c8,c9].drop 9).take (Tryz.prog.cellsOf 3))=xs[3]? :=hge 3 _ rfl
  rw [List.getElem?_eq_getElem (by omega),cells_int] at e3'
  have e3:DataW.trod enc Tryz.prog w b sp hd n 3 [c9]=some (xs[3]'(by omega)):=e3'
  obtain ⟨g,rfl,rfl,rfl,rfl,hi,ho,hn,hp⟩:=open_dg e0
  obtain ⟨lv,l,hl1,hl2,hl3⟩:=open_stampr e1
  obtain rfl:c7=lv:=by injection hl1
  obtain ⟨mv,more,hm1,hm2,hm3⟩:=open_stampr e2
  obtain rfl:c8=mv:=by injection hm1
  obtain ⟨n2,rfl,n0,n1⟩:=open_int' e3
  obtain rfl:=(Prod.mk.inj hx2).1
  refine ⟨g,_,_,_,_,_,l,more,n2,rfl,hi,ho,hn,hl2,hm2,hp,fun a ha=> ?_,fun a ha=> ?_⟩
  · unfold DataW.weights
    rw [Tryz.underlying90]
    dsimp only
    refine DataW.weights_mem_each (j:=1) (t:=60) (d:=xs[1].1) (by rfl) ?_ _ (hl3 a ha)
    rw [List.getElem?_map,List.getElem?_eq_getElem (by omega)]
    rfl
  · unfold DataW.weights
    rw [Tryz.underlying90]
    dsimp only
    refine DataW.weights_mem_each (j:=2) (t:=60) (d:=xs[2].1) (by rfl) ?_ _ (hm3 a ha)
    rw [List.getElem?_map,List.getElem?_eq_getElem (by omega)]
    rfl
end
end Kn
end Go.Proofs.YtkepkcjjenidgaaGreatDoor
namespace Go.Proofs.YtkepkcjjenidgaaGreatDoor
open Go.RowKit KR RegT3
namespace Kn
theorem sgcells_partD (g:SGuest) (iv ov nv:Value):(sgcells g iv ov nv).extract 0 (0 + 4)=g.x.cells:=by
 unfold sgcells Part.cells
 simp
theorem onesGD {w:World} {g:SGuest} {iv ov nv:Value} (hi:Rd 1 strCells w iv g.images) (ho:Rd 5 Chan.cells w ov g.outs) (hn:Rd 5 Chan.cells w nv g.ins_):∀ u ∈ (Value.agg (sgcells g iv ov nv)).cells.toList,u.oneCell'=true:=by
 obtain ⟨_,_,rfl,_⟩:=hi.shape
 obtain ⟨_,_,rfl,_⟩:=ho.shape
 obtain ⟨_,_,rfl,_⟩:=hn.shape
 intro u hu
 simp only [Value.cells,sgcells,List.mem_cons,List.not_mem_nil,or_false] at hu
 rcases hu with rfl|rfl|rfl|rfl|rfl|rfl|rfl <;> rfl
theorem din_guest (g:SGuest) (iv ov nv lv mv:Value) (n:Int):(dacells g iv ov nv lv mv n).extract 0 (0 + 7)=sgcells g iv ov nv:=by
 unfold dacells sgcells
 simp
theorem szStamp:∀ x:Stamp,(Stamp.cells x).size=3:=fun _=> rfl
theorem zeroStamp:∀ W,(zeroValue 93).run Tryz.prog W=.ok (.agg #[.int .u64 0,.int .i64 0,.string ⟨#[]⟩]) W:=zero_of (by kernel_rfl)
theorem onesStampL (x:Stamp):∀ u ∈ (Stamp.cells x).toList,u.oneCell'=true:=by
 intro u hu
 simp [Stamp.cells] at hu
 rcases hu with rfl|rfl|rfl <;> rfl
theorem one_rdT {W:World} {n:Nat} {a:Stamp} (h:W.heap[n]? =some (.cells (Stamp.cells a) 93 (0,0))):Rd 3 Stamp.cells W (.slice (some ⟨n,0,none⟩) 1 1) [a]:=
 ⟨_,1,rfl,Nat.le_refl _,(show 1≤9223372036854775807 by decide),.inr ⟨n,0,rfl,hlt h,fun i x hx j u hj=> by
   match i,hx with
   |0,hx=>
    obtain rfl:=Option.some.inj hx
    rw [hcell h]
    simpa using hj⟩⟩
theorem dO {B:Nat} {W W':World} {v:Value} {l:List Stamp} (hb:Below W.heap.size W W') (h:Hid (KR.Own 93 3 Stamp.cells B W v l)):Hid (KR.Own 93 3 Stamp.cells B W' v l):=hU (ownsRow_below h.out hb)
theorem join7 {A1 A2 A3 A4 A5 A6 A7:Type} {G:Prop} {T F:A1→A2→A3→A4→A5→A6→A7→Prop} (h1:∀ a b c d e f g,F a b c d e f g→T a b c d e f g) (h2:(∀ a b c d e f g,F a b c d e f g→T a b c d e f g)→G):G:=h2 h1
def lateOf (n:Int) (l:List Stamp):List Stamp:=l.filter (fun a=> decide (n<a.at_))
theorem late_hit {n:Int} {l:List Stamp} {i:Nat} {a:Stamp} (h:l[i]? =some a) (hn:n<a.at_):lateOf n (l.take (i + 1))=lateOf n (l.take i) ++ [a]:=by
 unfold lateOf
 rw [List.take_add_one,h,Option.toList_some,List.filter_append]
 simp [hn]
theorem late_miss {n:Int} {l:List Stamp} {i:Nat} {a:Stamp} (h:l[i]? =some a) (hn:¬ n<a.at_):lateOf n (l.take (i + 1))=lateOf n (l.take i):=by
 unfold lateOf
 rw [List.take_add_one,h,Option.toList_some,List.filter_append]
 simp [hn]
theorem late_len (n:Int) (l:List Stamp):(lateOf n l).length≤l.length:=List.length_filter_le _ _
def AheadR (w:World) (more:List Stamp) (n:Int) (lv iv:Value) (W:World):Prop:=∃ i:Nat,i≤more.length∧iv=.int .i64 i∧Hid (KR.Own 93 3 Stamp.cells w.heap.size W lv (lateOf n (more.take i)))∧Hid (Below w.heap.size w W)
theorem SameSeat (va vb:Value) (s:Seat) (w:World) (h1:SeatV w va s) (h2:SeatV w vb s):Calls Tryz.prog 34 #[va,vb] w (Gives (.bool true) w):=by
 obtain ⟨ya,sa,rfl,hla⟩:=h1
 obtain ⟨yb,sb,rfl,hlb⟩:=h2
 obtain ⟨q0,q1⟩:=two_new w w.heap.size (.cells (scells ya s) 58) (.cells (scells yb s) 58) rfl
 have hb0:Below w.heap.size w ((w.alloc (.cells (scells ya s) 58)).alloc (.cells (scells yb s) 58)):=bel
 obtain ⟨W0,hW0⟩:=exW ((w.alloc (.cells (scells ya s) 58)).alloc (.cells (scells yb s) 58))
 rw [hW0] at q0 q1 hb0
 have HA_0:=hU q0
 have HR_0:=hU q1
 have HB_0:=hU hb0
 have e4:=SameKern (.agg (kcells ya s.k)) (.agg (kcells yb s.k)) s.k W0 ⟨ya,sa,rfl,hla.below hb0⟩ ⟨yb,sb,rfl,hlb.below hb0⟩
 have HST:=hU e4
 clear q0 q1 hb0 hla hlb e4
 go_enter Tryz.func34,Tryz.ntmps34
 repeat' (first
  |(rw [hW0];clear hW0)
  |(refine wpList_load (t:=56) (v:=.agg (kcells ya s.k)) rfl rfl rfl (run_load_part aggKern HA_0.out (scells_kern _ _) rfl) ?_)
  |(refine wpList_load (t:=56) (v:=.agg (kcells yb s.k)) rfl rfl rfl (run_load_part aggKern HR_0.out (scells_kern _ _) rfl) ?_)
  |go_values|go_skip|go_guarded|(with_reducible refine wg ?_)|go_step|go_upon)
 refine HST.out.mono ?_
 rintro er W1 ⟨rfl,hb1⟩
 have f1:W1.cell? ⟨w.heap.size,17,none⟩=some (.int .i64 s.st):=hcell (nB hb1 HA_0).out 17
 have f2:W1.cell? ⟨w.heap.size,18,none⟩=some (.int .i64 s.boots):=hcell (nB hb1 HA_0).out 18
 have f3:W1.cell? ⟨w.heap.size + 1,17,none⟩=some (.int .i64 s.st):=hcell (nB hb1 HR_0).out 17
 have f4:W1.cell? ⟨w.heap.size + 1,18,none⟩=some (.int .i64 s.boots):=hcell (nB hb1 HR_0).out 18
 have HB_1:=hU (HB_0.out.trans (hb1.mono HB_0.out.size))
 clear hb1
 dsimp only
 repeat' (first|go_values|go_skip|go_guarded|(with_reducible refine wg ?_)|go_step|go_upon)
 go_ret
 exact gives_of (by simp) HB_1.out
theorem LDedAhead (g:SGuest) (iv ov nv lv mv:Value) (l more:List Stamp) (n:Int) (w:World) (hi:Rd 1 strCells w iv g.images) (ho:Rd 5 Chan.cells w ov g.outs) (hn:Rd 5 Chan.cells w nv g.ins_) (hl:Rd 3 Stamp.cells w lv l) (hm:Rd 3 Stamp.cells w mv more) (hx:PartOk g.x) (hs:SmallStamps l) (hsm:SmallStamps more) (hT:Tab w):
 Calls Tryz.prog 7 #[.agg (dacells g iv ov nv lv mv n)] w (Gives (.bool true) w):=by
 obtain ⟨la,lc,rfl,hlc,hlm⟩:=hl.shape
 obtain ⟨ma,mc,rfl,hmc,hmm⟩:=hm.shape
 have HM:=hU (fun W (h:Below w.heap.size w W)=> hm.below h)
 clear hm
 have HT:=hU (fun W (h:Below w.heap.size w W)=> hT.below h)
 have HI:=hU (fun W (h:Below w.heap.size w W)=> hi.below h)
 have HO:=hU (fun W (h:Below w.heap.size w W)=> ho.below h)
 have HN:=hU (fun W (h:Below w.heap.size w W)=> hn.below h)
 have HD:=hU (fun W (h:Below w.heap.size w W)=> hl.below h)
 have HON:=hU (onesGD hi ho hn)
 clear hi ho hn hT
 obtain ⟨Wn,hW0,hb0,HP⟩:=nb1 (W:=w) (.cells (dacells g iv ov nv (.slice la l.length lc) (.slice ma more.length mc) n) 90) rfl
 have HB:=hU hb0
 clear hb0
 obtain ⟨bHQ,hab,habHQ⟩:=nbz HB
 have hxHPHQ:=nlt HP hab
 have HPo:=HP
 obtain ⟨Wn,hWn,hba,HQ⟩:=nb1 (W:=Wn) (.cells #[.int .i64 0,.int .i64 0,.int .i64 0,.int .i64 0,.slice none 0 0,.slice none 0 0,.slice none 0 0] 88) hab
 replace HP:=nB hba HP
 replace HB:=nW hba HB
 clear hba
 go_enter Tryz.func7,Tryz.ntmps7
 repeat' (first
  |(rw [hW0];clear hW0)
  |(rw [hWn,hab];clear hWn hab)
  |(refine wpList_load (t:=88) (v:=.agg (sgcells g iv ov nv)) rfl rfl rfl (run_load_part aggDGuest HPo.out (din_guest ..) rfl) ?_;clear HPo)
  |(refine wpList_store (t:=88) (v:=.agg (sgcells g iv ov nv)) (off:=0) (new:=sgcells g iv ov nv) rfl rfl rfl rfl aggDGuest.size HQ.out rfl (show 0 + 7≤7 by decide) HON.out rfl ?_;intro Wn hp
    replace HB:=pW hp HB
    replace HP:=pT hp HQ HP
    replace HQ:=pA hp
    clear hp
    have p7:Wn.cell? ⟨w.heap.size,7,none⟩=some (.slice la l.length lc):=hcell HP.out 7
    have p8:Wn.cell? ⟨w.heap.size,8,none⟩=some (.slice ma more.length mc):=hcell HP.out 8
    have p9:Wn.cell? ⟨w.heap.size,9,none⟩=some (.int .i64 n):=hcell HP.out 9)
  |go_values|go_skip|go_guarded|(with_reducible refine wg ?_)|go_step|go_upon)
 clear HON p7 p8 p9
 refine (LShownD _ (HT.out _ HB.out)).mono ?_
 rintro er Wn ⟨rfl,hb⟩
 replace HP:=nB hb HP
 replace HQ:=nB hb HQ
 replace HB:=nW hb HB
 clear hb
 dsimp only
 repeat' (first
  |(refine wpList_load (t:=88) (v:=.agg (sgcells g iv ov nv)) rfl rfl rfl (run_load_whole aggDGuest HQ.out rfl) ?_)
  |go_values|go_skip|go_guarded|(with_reducible refine wg ?_)|go_step|go_upon)
 refine (LFewD g iv ov nv _ (HI.out _ HB.out) (HO.out _ HB.out) (HN.out _ HB.out)).mono ?_
 rintro er Wn ⟨rfl,hb⟩
 replace HP:=nB hb HP
 replace HQ:=nB hb HQ
 replace HB:=nW hb HB
 clear hb
 dsimp only
 cases hfew:fewS g
 · repeat' (first|go_values|go_skip|go_guarded|(with_reducible refine wg ?_)|go_step|go_upon)
   go_ret
   exact gives_of rfl HB.out
 have HG:=hU (few_okS hfew hx)
 clear hfew
 by_cases c0:n<0
 · have d0:decide (n<0)=true:=by simp [c0]
   repeat' (first|go_values|go_skip|go_guarded|(with_reducible refine wg ?_)|go_step|go_upon)
   go_ret
   exact gives_of rfl HB.out
 have d0:decide (n<0)=false:=by simp [c0]
 by_cases c1:200<n
 · have d1:decide (200<n)=true:=by simp [c1]
   repeat' (first|go_values|go_skip|go_guarded|(with_reducible refine wg ?_)|go_step|go_upon)
   go_ret
   exact gives_of rfl HB.out
 have d1:decide (200<n)=false:=by simp [c1]
 by_cases c2:100<(l.length:Int)
 · have d2:decide (100<(l.length:Int))=true:=by simp [c2]
   repeat' (first|go_values|go_skip|go_guarded|(with_reducible refine wg ?_)|go_step|go_upon)
   go_ret
   exact gives_of rfl HB.out
 have d2:decide (100<(l.length:Int))=false:=by simp [c2]
 by_cases c3:100<(more.length:Int)
 · have d3:decide (100<(more.length:Int))=true:=by simp [c3]
   repeat' (first|go_values|go_skip|go_guarded|(with_reducible refine wg ?_)|go_step|go_upon)
   go_ret
   exact gives_of rfl HB.out
 have d3:decide (100<(more.length:Int))=false:=by simp [c3]
 have hwu:IntKind.u64.wrap n=n:=by rw [IntKind.wrap_u64];omega
 obtain ⟨sa,hsa⟩:∃ sa,drun g l n.toNat=sa:=⟨_,rfl⟩
 have hlt0:drun g (l ++ lateOf n more) n.toNat=sa:=by
  rw [← hsa]
  refine drun_late HG.out hs (fun a ha=> ?_) (by omega)
  have h1:=(List.mem_filter.1 ha).2
  have h2:n<a.at_:=by simpa using h1
  omega
 have HSA:=hU hsa
 have HDL:=hU hlt0
 have HSM:Hid (SmallStamps (l ++ lateOf n more)):=hU (fun x hx=> by
  rcases List.mem_append.1 hx with h|h
  · exact hs x h
  · exact hsm x (List.mem_filter.1 h).1)
 have HSL:=hU hs
 clear hsa hlt0 hs hsm
 repeat' (first|go_values|go_skip|go_guarded|(with_reducible refine wg ?_)|go_step|go_upon)
 have hbz:=HB.out.size
 have HR0:Hid (Below Wn.heap.size Wn Wn):=hU (Below.refl _ _)
 obtain ⟨Wo,rfl⟩:∃ Wo,Wo=Wn:=⟨_,rfl⟩
 go_loopw [9,10] (fun lv iv2 wr=> AheadR Wo more n lv iv2 wr) (fun _ iv2 _=> more.length - (intOf iv2).toNat)
 case atStart=> exact ⟨0,Nat.zero_le _,rfl,hU (KR.Own.nil _ _ _ _ _),HR0⟩
 case round=>
  clear HR0
  obtain ⟨i,him,rfl,HL0,HRB⟩:=hrel
  obtain ⟨Wn,rfl⟩:∃ Wn,Wn=wr:=⟨_,rfl⟩
  have hbw:=HB.out.trans (HRB.out.mono HB.out.size)
  by_cases hil:i<more.length
  · have hj1:decide ((i:Int)<(more.length:Int))=true:=by simp [hil]
    have hj1b:decide (i<more.length)=true:=by simp [hil]
    have hj2:(i:Int)<(more.length:Int):=by omega
    have hj0:(0:Int)≤(i:Int):=by omega
    obtain ⟨a,hx⟩:∃ a,more[i]? =some a:=⟨_,List.getElem?_eq_getElem hil⟩
    obtain ⟨gb,off,hma,hgb,hcell0⟩:=(HM.out Wn hbw).elem.2.2.2 i a hx
    subst hma
    have HCE:=hU (hcell0 Wn (Below.refl _ _))
    have c0:Wn.cell? ⟨gb,off + i * 3,none⟩=some (.int .u64 a.at_):=HCE.out 0 _ rfl
    have HX:=hU hx
    clear hcell0 hx hbw
    by_cases hna:n<a.at_
    · have hd1:decide (n<a.at_)=true:=by simp [hna]
      have htk:=late_hit HX.out hna
      obtain ⟨g5,hab,hg5⟩:=nbz HRB
      obtain ⟨W1,hW1,hba,H5⟩:=nb1 (W:=Wn) (.cells (Stamp.cells a) 93) hab
      have HO1:=dO hba HL0
      have HR1:=nW hba HRB
      obtain ⟨v2,W2,hrun,hv2,hgr⟩:=apRow (P:=Tryz.prog) (t:=60) (ty:=60) (bytes:=32) szStamp (by decide) Tryz.underlying60 (by kernel_rfl) onesStampL HO1.out (one_rdT H5.out) HR1.out.size (by have:=late_len n (more.take i);rw [List.length_take] at this;rw [List.length_singleton];unfold maxLen;omega) (by have:=late_len n (more.take i);rw [List.length_take] at this;rw [List.length_singleton];omega)
      obtain ⟨htn,hbl⟩:=tn_of HO1.out HR1.out.size hgr
      have HRUN:=hU hrun
      have HO2:Hid (KR.Own 93 3 Stamp.cells Wo.heap.size W2 v2 (lateOf n (more.take (i + 1)))):=hU (by rw [htk];exact hv2)
      have HR2:Hid (Below Wo.heap.size Wo W2):=hU (HR1.out.trans hbl)
      clear htk hba hrun hv2 hgr htn hbl HO1 HR1 HRB HL0 H5 hna
      repeat' (first
       |(refine wpList_load (t:=93) (v:=.agg (Stamp.cells a)) rfl rfl rfl (run_load_arr aggStamp rfl HCE.out) ?_)
       |(refine wpList_buildSlice_one (v:=.agg (Stamp.cells a)) rfl _ rfl rfl Tryz.underlying60 aggStamp.size zeroStamp rfl (by decide) (by decide) rfl ?_;(try simp only [Value.cells]);rw [hab,hW1];clear hab hW1)
       |(at_builtin;refine wpList_append_run _ rfl _ _ _ _ rfl _ _ rfl rfl _ _ HRUN.out ?_)
       |go_values|go_skip|go_guarded|(with_reducible refine wg ?_)|go_step|go_upon)
      exact ⟨⟨i + 1,by omega,by go_num,HO2,HR2⟩,by simp [intOf];omega⟩
    · have hd1:decide (n<a.at_)=false:=by simp;omega
      have htk:=late_miss HX.out hna
      rw [← htk] at HL0
      clear htk hna
      repeat' (first|go_values|go_skip|go_guarded|(with_reducible refine wg ?_)|go_step|go_upon)
      exact ⟨⟨i + 1,by omega,by go_num,HL0,HRB⟩,by simp [intOf];omega⟩
  · have hj1:decide ((i:Int)<(more.length:Int))=false:=by simp;omega
    have hj1b:decide (i<more.length)=false:=by simp;omega
    have hj1c:¬ i<more.length:=hil
    have hie:more.take i=more:=List.take_of_length_le (by omega)
    rw [hie] at HL0
    replace HQ:=nB HRB.out HQ
    have HLT:=hU (fun W (h:Below Wn.heap.size Wn W)=> (HL0.out.sl szStamp).rd.below h)
    replace HB:Hid (Below w.heap.size w Wn):=hU hbw
    have hll:=late_len n more
    clear hie hil HL0 HRB hbw HP hbz him HM
    obtain ⟨Wl,hWl⟩:∃ Wl,Wl=Wn:=⟨_,rfl⟩
    have HRL:Hid (Below Wl.heap.size Wl Wn):=hU (by rw [hWl];exact Below.refl _ _)
    rw [← hWl] at HLT
    clear hWl
    have g4:Wn.cell? ⟨bHQ,4,none⟩=some iv:=hcell HQ.out 4
    have g5:Wn.cell? ⟨bHQ,5,none⟩=some ov:=hcell HQ.out 5
    have g6:Wn.cell? ⟨bHQ,6,none⟩=some nv:=hcell HQ.out 6
    repeat' (first
     |(refine wpList_load (t:=64) (v:=.agg g.x.cells) rfl rfl rfl (run_load_part aggPart HQ.out (sgcells_partD _ _ _ _) rfl) ?_)
     |go_values|go_skip|go_guarded|(with_reducible refine wg ?_)|go_step|go_upon)
    clear g4 g5 g6
    refine (SRun17 g iv ov nv (.slice la l.length lc) l n _ (HI.out _ HB.out) (HO.out _ HB.out) (HN.out _ HB.out) (HD.out _ HB.out) HG.out HSL.out (by omega) (HT.out _ HB.out)).mono ?_
    rintro er Wn ⟨vA,rfl,⟨yA,bsA,rfl,hl⟩,hb⟩
    replace HQ:=nB hb HQ
    replace HRL:=nW hb HRL
    replace HB:=nW hb HB
    rw [HSA.out] at hl ⊢
    have HLA:=hU hl
    clear hb hl
    dsimp only
    obtain ⟨bHA,hab,habHA⟩:=nbz HB
    have hLA:Wl.heap.size≤bHA:=by rw [← hab];exact HRL.out.size
    have hxQ:=nlt HQ hab
    obtain ⟨Wn,hWn,hba,HA⟩:=nb1 (W:=Wn) (.cells #[.slice none 0 0,.slice none 0 0,.int .i64 0,.slice none 0 0,.slice none 0 0,.int .i64 0,.slice none 0 0,.int .u64 0,.slice none 0 0,.slice none 0 0,.slice none 0 0,.slice none 0 0,.string ⟨#[]⟩,.slice none 0 0,.slice none 0 0,.int .i64 0,.int .i64 0,.int .i64 0,.int .i64 0] 58) hab
    replace HQ:=nB hba HQ
    replace HLA:=nL hba HLA
    replace HRL:=nW hba HRL
    replace HB:=nW hba HB
    clear hba
    have HON:=hU (onesS HLA.out)
    repeat' (first
     |(rw [hWn,hab];clear hWn hab)
     |(refine wpList_store (t:=58) (v:=.agg (scells yA sa)) (off:=0) (new:=scells yA sa) rfl rfl rfl rfl aggSeat.size HA.out rfl (show 0 + 19≤19 by decide) HON.out rfl ?_;intro Wn hp
       replace HRL:=pW hp HRL hLA
       replace HB:=pW hp HB
       replace HQ:=pT hp HA HQ
       replace HLA:=pL hp HA HLA noSeat
       replace HA:=pA hp
       clear hp)
     |go_values|go_skip|go_guarded|(with_reducible refine wg ?_)|go_step|go_upon)
    clear HON
    refine wp_region_noPanic ?_
    refine go0 (S:=fun W=> W.heap[bHQ]? =some (.cells (sgcells g iv ov nv) 88 (0,0))∧W.cell? ⟨bHQ,4,none⟩=some iv∧W.cell? ⟨bHQ,5,none⟩=some ov∧W.cell? ⟨bHQ,6,none⟩=some nv) [] (⟨(HQ).out,hcell (HQ).out 4,hcell (HQ).out 5,hcell (HQ).out 6⟩) fun hS=> ?_
    obtain ⟨Wr,hWd⟩:=exW Wn.drew
    replace HQ:=dB hWd HQ
    replace HA:=dB hWd HA
    replace HLA:=dL hWd HLA
    replace HB:=dW hWd HB
    replace HRL:=dW hWd HRL
    rw [hWd] at hS ⊢
    clear hWd
    refine tp 0 ?_;(try simp only [acts])
    refine tv 1 (.agg g.x.cells) (fun W hSW=> run_val_load rfl rfl (run_load_part aggPart hSW.1 (sgcells_partD _ _ _ _) rfl)) ?_;(try simp only [acts])
    refine tp 2 ?_;(try simp only [acts])
    refine tl 3 ?_;(try simp only [acts])
    refine tp 4 ?_;(try simp only [acts])
    refine tl 5 ?_;(try simp only [acts])
    refine tp 6 ?_;(try simp only [acts])
    refine tl 7 ?_;(try simp only [acts])
    refine tp 9 ?_;(try simp only [acts])
    refine tp 11 ?_;(try simp only [acts])
    refine tp 13 ?_;(try simp only [acts])
    have HRB:Hid (Below Wr.heap.size Wr Wr):=hU (Below.refl _ _)
    apply join7 (F:=fun (Wn:World) (bN g1:Nat) (yN:Lay) (bsN:List BoxV) (v3 v6:Value)=> Hid (Below Wr.heap.size Wr Wn)∧Hid (Wn.heap[bN]? =some (.cells (scells yN sa) 58 (0,0)))∧Hid (LayAt Wn yN bsN sa.k)∧Wr.heap.size≤bN)
    case h2=>
     intro hj
     iterate 5
      all_goals first|refine twoL (i:=8) (j:=15) (by decide +kernel) rfl rfl (fun K hK=> ?_) (fun K hK=> ?_)|refine twoL (i:=10) (j:=15) (by decide +kernel) rfl rfl (fun K hK=> ?_) (fun K hK=> ?_)|refine twoL (i:=12) (j:=15) (by decide +kernel) rfl rfl (fun K hK=> ?_) (fun K hK=> ?_)|refine twoL (i:=14) (j:=15) (by decide +kernel) rfl rfl (fun K hK=> ?_) (fun K hK=> ?_)|refine ro 8 (hr:=by decide +kernel) fun K hK=> ?_|refine ro 10 (hr:=by decide +kernel) fun K hK=> ?_|refine ro 12 (hr:=by decide +kernel) fun K hK=> ?_|refine ro 14 (hr:=by decide +kernel) fun K hK=> ?_|refine ro 15 (hr:=by decide +kernel) fun K hK=> ?_
      all_goals
       first
       |(refine want rfl ?_
         refine isD (some 89) rfl ?_
         try clear hS
         refine wp_buildSlice_no (S:=60) rfl Tryz.underlying60 aggStamp.size ?_
         obtain ⟨g1,hab,hg1⟩:=nbz HRB
         obtain ⟨Wn,hWn,hba,H1⟩:=nb1 (.cells #[] 93) hab
         rw [hab,hWn]
         try replace H5:=nB hba H5
         try replace HN2:=nB hba HN2
         replace HRB:=nW hba HRB
         clear hWn hba hab
         refine nx hK (⟨(nB HRB.out HQ).out,hcell (nB HRB.out HQ).out 4,hcell (nB HRB.out HQ).out 5,hcell (nB HRB.out HQ).out 6⟩) fun hS=> ?_
         clear hK K
         (try simp only [acts]))
       |(refine want rfl ?_
         refine isD (some 91) rfl ?_
         try clear hS
         have hbw:=HB.out.trans (HRB.out.mono HB.out.size)
         obtain ⟨v3,Wn,hrun,hv3,hb⟩:=apFull (P:=Tryz.prog) (t:=60) (ty:=60) (bytes:=32) szStamp (by decide) Tryz.underlying60 (by kernel_rfl) H1.out (HD.out _ hbw) hg1 (by unfold maxLen;omega) (by omega)
         refine wp_append_run _ _ _ _ rfl _ _ rfl rfl _ _ hrun ?_
         have HO3:=hU hv3
         clear H1
         try replace H5:=nB hb H5
         try replace HN2:=nB hb HN2
         replace HRB:=nW hb HRB
         clear hrun hv3 hb hbw
         refine nx hK (⟨(nB HRB.out HQ).out,hcell (nB HRB.out HQ).out 4,hcell (nB HRB.out HQ).out 5,hcell (nB HRB.out HQ).out 6⟩) fun hS=> ?_
         clear hK K
         (try simp only [acts]))
       |(refine want rfl ?_
         refine isD (some 93) rfl ?_
         try clear hS
         obtain ⟨v6,Wn,hrun,hv6,hg⟩:=apRow (P:=Tryz.prog) (t:=60) (ty:=60) (bytes:=32) szStamp (by decide) Tryz.underlying60 (by kernel_rfl) onesStampL HO3.out (HLT.out _ (HRL.out.trans (HRB.out.mono HRL.out.size))) HRB.out.size (by unfold maxLen;omega) (by omega)
         obtain ⟨htn,hbl⟩:=tn_of HO3.out HRB.out.size hg
         refine wp_append_run _ _ _ _ rfl _ _ rfl rfl _ _ hrun ?_
         have HO6:=hU hv6
         replace HRB:Hid (Below Wr.heap.size Wr Wn):=hU (HRB.out.trans hbl)
         try replace HN2:=tnB htn HN2
         clear hrun hv6 hg htn hbl HO3
         refine nx hK (⟨(nB HRB.out HQ).out,hcell (nB HRB.out HQ).out 4,hcell (nB HRB.out HQ).out 5,hcell (nB HRB.out HQ).out 6⟩) fun hS=> ?_
         clear hK K
         (try simp only [acts]))
       |(refine want rfl ?_
         refine isD (some 95) rfl ?_
         go_simp
         try clear hS
         have hbw:=HB.out.trans (HRB.out.mono HB.out.size)
         refine (SRun17 g iv ov nv v6 (l ++ lateOf n more) n _ (HI.out _ hbw) (HO.out _ hbw) (HN.out _ hbw) (HO6.out.sl szStamp).rd HG.out HSM.out (by rw [List.length_append];omega) (HT.out _ hbw)).mono ?_
         rintro er Wn ⟨v7,rfl,⟨yN,bsN,rfl,hl⟩,hb⟩
         rw [HDL.out] at hl ⊢
         have HLN:=hU hl
         clear HO6
         try replace HN2:=nB hb HN2
         replace HRB:=nW hb HRB
         clear hl hb hbw
         dsimp only
         refine nx hK (⟨(nB HRB.out HQ).out,hcell (nB HRB.out HQ).out 4,hcell (nB HRB.out HQ).out 5,hcell (nB HRB.out HQ).out 6⟩) fun hS=> ?_
         clear hK K
         (try simp only [acts]))
       |(refine want rfl ?_
         refine isD (some 12) rfl ?_
         go_simp
         try clear hS
         obtain ⟨bHN2,hab,habN⟩:=nbz HRB
         obtain ⟨Wn,hWn,hba,HN2⟩:=nb1 (.cells #[.slice none 0 0,.slice none 0 0,.int .i64 0,.slice none 0 0,.slice none 0 0,.int .i64 0,.slice none 0 0,.int .u64 0,.slice none 0 0,.slice none 0 0,.slice none 0 0,.slice none 0 0,.string ⟨#[]⟩,.slice none 0 0,.slice none 0 0,.int .i64 0,.int .i64 0,.int .i64 0,.int .i64 0] 58) hab
         rw [hWn,hab]
         try replace H1:=nB hba H1
         try replace H5:=nB hba H5
         replace HRB:=nW hba HRB
         try replace HO3:=dO hba HO3
         try replace HO6:=dO hba HO6
         try replace HLN:=nL hba HLN
         clear hWn hba hab
         refine nx hK (⟨(nB HRB.out HQ).out,hcell (nB HRB.out HQ).out 4,hcell (nB HRB.out HQ).out 5,hcell (nB HRB.out HQ).out 6⟩) fun hS=> ?_
         clear hK K
         (try simp only [acts]))
     all_goals
      refine ro 16 fun K hK=> ?_
      refine want rfl ?_
      clear hS
      refine wp_store (v:=.agg (scells yN sa)) (off:=0) (new:=scells yN sa) rfl rfl rfl aggSeat.size HN2.out rfl (show 0 + 19≤19 by decide) (onesS HLN.out) rfl ?_
      intro Wn hp
      replace HRB:=pW hp HRB habN
      replace HLN:=pL hp HN2 HLN noSeat
      replace HN2:=pA hp
      clear hp
      refine nx hK (⟨(nB HRB.out HQ).out,hcell (nB HRB.out HQ).out 4,hcell (nB HRB.out HQ).out 5,hcell (nB HRB.out HQ).out 6⟩) fun hS=> ?_
      clear hK K
      (try simp only [acts])
      refine doneL (by kernel_rfl) (NoPanic.normal ?_) _
      exact hj Wn bHN2 g1 yN bsN v3 v6 ⟨HRB,HN2,HLN,habN⟩
    rintro Wn bHN2 g1 yN bsN v3 v6 ⟨HR2,HN2,HLN,hbN⟩
    clear hS HRB HQ
    replace HA:=nB HR2.out HA
    replace HLA:=nL HR2.out HLA
    replace HB:=nW HR2.out HB
    clear HR2
    repeat' (first
     |(refine wpList_load (t:=58) (v:=.agg (scells yA sa)) rfl rfl rfl (run_load_whole aggSeat HA.out rfl) ?_)
     |(refine wpList_load (t:=58) (v:=.agg (scells yN sa)) rfl rfl rfl (run_load_whole aggSeat HN2.out rfl) ?_)
     |go_values|go_skip|go_guarded|(with_reducible refine wg ?_)|go_step|go_upon)
    refine (SameSeat (.agg (scells yA sa)) (.agg (scells yN sa)) sa _ ⟨yA,bsA,rfl,HLA.out⟩ ⟨yN,bsN,rfl,HLN.out⟩).mono ?_
    rintro er Wn ⟨rfl,hb⟩
    replace HB:=nW hb HB
    clear hb
    dsimp only
    repeat' (first|go_values|go_skip|go_guarded|(with_reducible refine wg ?_)|go_step|go_upon)
    go_ret
    exact gives_of rfl HB.out
end Kn
end Go.Proofs.YtkepkcjjenidgaaGreatDoor
namespace Go.Proofs.YtkepkcjjenidgaaGreatDoor.lawDedAhead
open Go.ChangeShapes Go.WideShapes Go.ChangeAt Go.RowKit
theorem contract (H:Type) (enc:TypeId × Value→H) (W:World) (base:Nat) (args:Array Value) (ds gs:List (DataW H)) (before:List MemPlace)
 (hval:∀ (j:Nat) t v,Tryz.f7.params[j]? =some t→args[j]? =some v→Value.okWide Tryz.prog W .any base t v)
 (hW:DataW.Whole enc Tryz.prog Tryz.f7.params.toList Rows.dedAheadSpec.vars false W args.toList ds gs before) (hL:laidMetH Tryz.prog Rows.dedAheadRow.laid W)
 (hr:(DataW.weightsEach Tryz.prog (Tryz.f7.params.toList ++ (OpenSpec.ofChange Rows.dedAheadSpec).bare.plain.varTypes Tryz.prog) (ds ++ gs)).all (· ≤reachBytes)=true):
 Calls Tryz.prog 7 args W fun e W'=> ∃ v,e=.returned v∧Rows.dedAheadSpec.post enc Tryz.prog Tryz.f7 false true false false W args v W':=by
 have hW':=hW
 obtain ⟨p,q,hA0,hV,rfl,hfz,hnd⟩:=hW
 have hA:DataW.TrodAll enc Tryz.prog W 0 (fun _=> true) true Tryz.f7.params.toList args.toList ds p:=hA0
 rw [Tryz.params7] at hA hval
 obtain ⟨v0,d0,rfl,rfl,h0⟩:=trodAll_one hA
 obtain ⟨rfl,rfl⟩:=trodVars_none hV
 obtain ⟨g,iv,ov,nv,lv,mv,l,more,n,rfl,hi,ho,hn,hl,hm,hx,hwl,hwm⟩:=Kn.open_ahead (hval 0 90 v0 rfl rfl) h0
 have hsl:=fun a ha=> Kn.small_of (j:=0) hr (by kernel_rfl) rfl (hwl a ha)
 have hsm:=fun a ha=> Kn.small_of (j:=0) hr (by kernel_rfl) rfl (hwm a ha)
 refine (Kn.LDedAhead g iv ov nv lv mv l more n W hi ho hn hl hm hx hsl hsm (tab_of hL)).mono fun e W' ⟨he,hb⟩=> ?_
 subst he
 exact ⟨_,rfl,law_post (tb:=4) hW' rfl rfl rfl rfl (by kernel_rfl) Tryz.underlying4 laid_outB (by rw [Tryz.params7];decide +kernel) hb⟩
abbrev zeros:Array Value:=#[.agg #[.int .i64 0,.int .i64 0,.int .i64 0,.int .i64 0,.slice none 0 0,.slice none 0 0,.slice none 0 0,.slice none 0 0,.slice none 0 0,.int .i64 0]]
theorem laid_met (os:Os):laidMet Tryz.prog Rows.dedAheadRow.laid ((laidWorld os).forCall (fun _ _=> 0) ⟨#[],zeros,[]⟩).memory:=
 laidMet_of_run' 8 (by kernel_rfl) (by kernel_rfl)
theorem reads (os:Os) {H:Type} (enc:TypeId × Value→H):∃ places,DataW.whole enc Tryz.prog ((laidWorld os).forCall (fun _ _=> 0) ⟨#[],zeros,[]⟩).memory Tryz.f7.params.toList Rows.dedAheadSpec.vars false zeros.toList 8=some ([.agg [.agg [.agg [.lit (.int .i64 0),.agg [.lit (.int .i64 0),.lit (.int .i64 0),.lit (.int .i64 0)]],.nil,.nil,.nil],.nil,.nil,.lit (.int .i64 0)]],[],places):=
 ⟨[],by kernel_rfl⟩
theorem lifted (os:Os) (started:os.Started) (H:Type) (enc:TypeId × Value→H) (F:Stop.Interp):
 ReturnsInHanded {} Tryz.checked os 7 .any ((OpenSpec.ofChange Rows.dedAheadSpec).preRow enc Tryz.prog Tryz.f7 Rows.dedAheadRow.domain false Rows.dedAheadRow.laid) (((OpenSpec.ofChange Rows.dedAheadSpec).at F).post enc Tryz.prog Tryz.f7 false true false false):=by
 obtain ⟨places,hx⟩:=reads os enc
 refine returnsInHanded_of_row (C:=Tryz.checked) (s:=OpenSpec.ofChange Rows.dedAheadSpec) own started (by kernel_rfl) Tryz.func7
  (witness_row_at (enc:=enc) (C:=Tryz.checked) false (laidWorld os) zeros rfl (by kernel_rfl) (by kernel_rfl) (by kernel_rfl)
    (OpenSpec.preRow_of_cond 8 hx (by kernel_rfl) (fun k hk=> by cases hk) (by kernel_rfl) (laid_met os))) ?_
 intro W base args ds gs before hval hW _ hcond hr hL _ _
 exact contract H enc W base args ds gs before hval hW hL hr
theorem j0:(Rows.dedAheadRow.inPlace==Tryz.pinned.checked.prog.inPlace 7)=true:=by kernel_rfl
theorem j1:(Rows.dedAheadRow.unfollowed==Tryz.pinned.checked.prog.unfollowed 7)=true:=by kernel_rfl
theorem j2:(Rows.dedAheadRow.recurses==Tryz.pinned.checked.prog.recurses 7)=true:=by kernel_rfl
theorem j3:(Rows.dedAheadRow.named==Tryz.pinned.checked.prog.varsNamed 7)=true:=by kernel_rfl
theorem facts:joinedFacts Tryz.pinned.checked.prog 7 Tryz.f7 (OpenSpec.ofChange Rows.dedAheadSpec).bare Rows.dedAheadRow=true:=by
 unfold joinedFacts
 rw [j0,j1,j2,j3]
 kernel_rfl
theorem said:Rows.DedAheadSaid:=
 OpenClaim.holds_of_cond 7 Tryz.f7 rfl rfl rfl rfl rfl rfl rfl ⟨rfl,rfl,rfl,rfl,rfl⟩ rfl rfl rfl rfl rfl (by kernel_rfl) Tryz.func7 facts
  (of_decide_eq_true (by kernel_rfl)) (by unfold Func.isWrapper;first|(rw [if_pos (by decide +kernel)];kernel_rfl)|(rw [if_neg (by decide +kernel)];exact ⟨rfl,rfl⟩))
  (fun os started H enc _ F=> by rw [OpenClaim.pre_eq_preRow];exact lifted os started H enc F)
theorem plain (f:FuncId) (fn:Func) (hf:Tryz.pinned.checked.prog.funcNamed "transom/transomlaw17.DedAhead" =some f) (hfn:Tryz.pinned.checked.prog.funcs[f]? =some fn):
 false=Tryz.pinned.checked.prog.looks []∧∀ (j:Nat) t,fn.params[j]? =some t→Tryz.pinned.checked.prog.wantsStandIn t=false:=by
 obtain rfl:f=7:=Option.some.inj ((show Tryz.prog.funcNamed "transom/transomlaw17.DedAhead" =some 7 by kernel_rfl).symm.trans hf)|>.symm
 obtain rfl:fn=Tryz.f7:=(Option.some.inj (Tryz.func7.symm.trans hfn)).symm
 refine ⟨looks_off,fun j t ht=> ?_⟩
 have hm:=Array.mem_of_getElem? ht
 rw [Tryz.params7] at hm
 have hall:∀ t ∈ (#[90]:Array TypeId),Tryz.prog.wantsStandIn t=false:=by decide +kernel
 exact hall t hm
theorem card:Rows.DedAheadCardSaid:=
 Claim7.holds_tied_plain_at .later [] _ _ _ _ said (fun _ h=> by cases h) (by kernel_rfl) (fun _ h=> by cases h) dedAhead_row_tie rfl ⟨rfl,rfl⟩ (by kernel_rfl) rfl plain (by kernel_rfl)
#print axioms card
end Go.Proofs.YtkepkcjjenidgaaGreatDoor.lawDedAhead
