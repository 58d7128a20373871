/- What the law is asked of, as it comes in. No condition. The law DedGrows: it answers true. Conditions: rows that there can be; the table of the instructions' parts lies there. The card of DedGrows: what was answered in a run is the beginning of what is answered in a longer one, of the same stamps, the console, too; for every partition, few images, 100 stamps and 200 cycles at most. -/
import Derived.Test.YtbhecddpnpkdpaaGreatDoorGDe
import Derived.Test.YtbhecddpnpkdpaaGreatDoorGCard
set_option linter.unusedVariables false
set_option maxRecDepth 100000
set_option maxHeartbeats 8000000
set_option linter.unusedSimpArgs false
namespace Go.Proofs.YtbhecddpnpkdpaaGreatDoor
open Go.ChangeShapes Go.WideShapes Go.ChangeAt Go.RowKit Go.Joins Go.Deep KR
namespace Kn
section
variable {H:Type} {enc:TypeId × Value→H} {w:World} {base b:Nat} {sp:Nat→Bool} {hd:Bool} {r:Reach}
def dgcells (g:SGuest) (iv ov nv lv:Value) (n more:Int):Array Value:=#[.int .i64 g.x.mem,.int .i64 g.x.a1,.int .i64 g.x.a2,.int .i64 g.x.a3,iv,ov,nv,lv,.int .i64 n,.int .i64 more]
theorem cells_dguest:Tryz.prog.cellsOf 70=7:=by kernel_rfl
theorem open_dg {fuel:Nat} {c0 c1 c2 c3 c4 c5 c6:Value} {x:DataW H × List MemPlace} (h:DataW.trod enc Tryz.prog w b sp hd fuel 70 [c0,c1,c2,c3,c4,c5,c6]=some x):
 ∃ g:SGuest,c0=.int .i64 g.x.mem∧c1=.int .i64 g.x.a1∧c2=.int .i64 g.x.a2∧c3=.int .i64 g.x.a3∧Rd 1 strCells w c4 g.images∧Rd 5 Chan.cells w c5 g.outs∧Rd 5 Chan.cells w c6 g.ins_∧PartOk g.x:=by
 obtain ⟨xs,n,_,_,_,hl,hgg⟩:=DataW.trod_struct Tryz.underlying70 h
 have hx:xs.length=4:=hl
 have g0':DataW.trod enc Tryz.prog w b sp hd n 24 (([c0,c1,c2,c3,c4,c5,c6].drop 0).take (Tryz.prog.cellsOf 24))=xs[0]? :=hgg 0 _ rfl
 rw [List.getElem?_eq_getElem (by omega),cells_part] at g0'
 have g0:DataW.trod enc Tryz.prog w b sp hd n 24 [c0,c1,c2,c3]=some (xs[0]'(by omega)):=g0'
 have g1':DataW.trod enc Tryz.prog w b sp hd n 25 (([c0,c1,c2,c3,c4,c5,c6].drop 4).take (Tryz.prog.cellsOf 25))=xs[1]? :=hgg 1 _ rfl
 rw [List.getElem?_eq_getElem (by omega),cells_strs] at g1'
 have g1:DataW.trod enc Tryz.prog w b sp hd n 25 [c4]=some (xs[1]'(by omega)):=g1'
 have g2':DataW.trod enc Tryz.prog w b sp hd n 26 (([c0,c1,c2,c3,c4,c5,c6].drop 5).take (Tryz.prog.cellsOf 26))=xs[2]? :=hgg 2 _ rfl
 rw [List.getElem?_eq_getElem (by omega),cells_chans] at g2'
 have g2:DataW.trod enc Tryz.prog w b sp hd n 26 [c5]=some (xs[2]'(by omega)):=g2'
 have g3':DataW.trod enc Tryz.prog w b sp hd n 26 (([c0,c1,c2,c3,c4,c5,c6].drop 6).take (Tryz.prog.cellsOf 26))=xs[3]? :=hgg 3 _ rfl
 rw [List.getElem?_eq_getElem (by omega),cells_chans] at g3'
 have g3:DataW.trod enc Tryz.prog w b sp hd n 26 [c6]=some (xs[3]'(by omega)):=g3'
 obtain ⟨p,rfl,rfl,rfl,rfl,hp⟩:=open_part g0
 obtain ⟨iv,im,hi,hi2⟩:=open_strs g1
 obtain ⟨ov,ou,ho,ho2⟩:=open_chans g2
 obtain ⟨nv,ni,hn,hn2⟩:=open_chans g3
 obtain rfl:c4=iv:=by injection hi
 obtain rfl:c5=ov:=by injection ho
 obtain rfl:c6=nv:=by injection hn
 exact ⟨⟨p,im,ou,ni⟩,rfl,rfl,rfl,rfl,hi2,ho2,hn2,hp⟩
theorem cells_din:Tryz.prog.cellsOf 73=10:=by kernel_rfl
theorem open_grows {v:Value} {d:DataW H} {p:List MemPlace} (hv:Value.okWide Tryz.prog w r base 73 v) (h:DataW.Trod enc Tryz.prog w b sp hd 73 v d p):
 ∃ g iv ov nv lv l n more,v=.agg (dgcells g iv ov nv lv n more)∧Rd 1 strCells w iv g.images∧Rd 5 Chan.cells w ov g.outs∧Rd 5 Chan.cells w nv g.ins_∧Rd 3 Stamp.cells w lv l∧PartOk g.x∧∀ a ∈ l,a.body.size ∈ d.weights Tryz.prog 73:=by
 obtain ⟨cs,rfl,hsz⟩:=okWide_struct Tryz.underlying73 hv
 rw [cells_din] at hsz
 obtain ⟨fuel,hf⟩:=h
 obtain ⟨l0⟩:=cs
 match l0,hsz with
 |[c0,c1,c2,c3,c4,c5,c6,c7,c8,c9],_=>
  obtain ⟨xs,n,_,hx2,_,hlen,hge⟩:=DataW.trod_struct Tryz.underlying73 hf
  have hx:xs.length=4:=hlen
  have e0':DataW.trod enc Tryz.prog w b sp hd n 70 (([c0,c1,c2,c3,c4,c5,c6,c7,c8,c9].drop 0).take (Tryz.prog.cellsOf 70))=xs[0]? :=hge 0 _ rfl
  rw [List.getElem?_eq_getElem (by omega),cells_dguest] at e0'
  have e0:DataW.trod enc Tryz.prog w b sp hd n 70 [c0,c1,c2,c3,c4,c5,c6]=some (xs[0]'(by omega)):=e0'
  have e1':DataW.trod enc Tryz.prog w b sp hd n 71 (([c0,c1,c2,c3,c4,c5,c6,c7,c8,c9].drop 7).take (Tryz.prog.cellsOf 71))=xs[1]? :=hge 1 _ rfl
  rw [List.getElem?_eq_getElem (by omega),cells_sts] at e1'
  have e1:DataW.trod enc Tryz.prog w b sp hd n 71 [c7]=some (xs[1]'(by omega)):=e1'
  have e2':DataW.trod enc Tryz.prog w b sp hd n 3 (([c0,c1,c2,c3,c4,c5,c6,c7,c8,c9].drop 8).take (Tryz.prog.cellsOf 3))=xs[2]? :=hge 2 _ rfl
  rw [List.getElem?_eq_getElem (by omega),cells_int] at e2'
  have e2:DataW.trod enc Tryz.prog w b sp hd n 3 [c8]=some (xs[2]'(by omega)):=e2'
  have e3':DataW.trod enc Tryz.prog w b sp hd n 3 (([c0,c1,c2,c3,c4,c5,c6,c7,c8,c9].drop 9).take (Tryz.prog.cellsOf 3))=xs[3]? :=hge 3 _ rfl
  rw [List.getElem?_eq_getElem (by omega),cells_int] at e3'
  have e3:DataW.trod enc Tryz.prog w b sp hd n 3 [c9]=some (xs[3]'(by omega)):=e3'
  obtain ⟨g,rfl,rfl,rfl,rfl,hi,ho,hn,hp⟩:=open_dg e0
  obtain ⟨lv,l,hl1,hl2,hl3⟩:=open_stampr e1
  obtain rfl:c7=lv:=by injection hl1
  obtain ⟨n2,rfl,n0,n1⟩:=open_int' e2
  obtain ⟨more,rfl,m0,m1⟩:=open_int' e3
  obtain rfl:=(Prod.mk.inj hx2).1
  refine ⟨g,_,_,_,_,l,n2,more,rfl,hi,ho,hn,hl2,hp,fun a ha=> ?_⟩
  unfold DataW.weights
  rw [Tryz.underlying73]
  dsimp only
  refine DataW.weights_mem_each (j:=1) (t:=71) (d:=xs[1].1) (by rfl) ?_ _ (hl3 a ha)
  rw [List.getElem?_map,List.getElem?_eq_getElem (by omega)]
  rfl
end
end Kn
end Go.Proofs.YtbhecddpnpkdpaaGreatDoor
namespace Go.Proofs.YtbhecddpnpkdpaaGreatDoor
open Go.RowKit KR RegT3
namespace Kn
theorem sgcells_partD (g:SGuest) (iv ov nv:Value):(sgcells g iv ov nv).extract 0 (0 + 4)=g.x.cells:=by
 unfold sgcells Part.cells
 simp
theorem onesGD {w:World} {g:SGuest} {iv ov nv:Value} (hi:Rd 1 strCells w iv g.images) (ho:Rd 5 Chan.cells w ov g.outs) (hn:Rd 5 Chan.cells w nv g.ins_):∀ u ∈ (Value.agg (sgcells g iv ov nv)).cells.toList,u.oneCell'=true:=by
 obtain ⟨_,_,rfl,_⟩:=hi.shape
 obtain ⟨_,_,rfl,_⟩:=ho.shape
 obtain ⟨_,_,rfl,_⟩:=hn.shape
 intro u hu
 simp only [Value.cells,sgcells,List.mem_cons,List.not_mem_nil,or_false] at hu
 rcases hu with rfl|rfl|rfl|rfl|rfl|rfl|rfl <;> rfl
theorem din_guest (g:SGuest) (iv ov nv lv:Value) (n more:Int):(dgcells g iv ov nv lv n more).extract 0 (0 + 7)=sgcells g iv ov nv:=by
 unfold dgcells sgcells
 simp
theorem cut_leftD (a b:ByteArray):(a ++ b).extract 0 a.size=a:=by
 apply ByteArray.ext
 rw [ByteArray.data_extract,ByteArray.data_append]
 show (a.data ++ b.data).extract 0 a.data.size=a.data
 rw [Array.extract_append_left,Array.extract_size]
theorem LDedGrows (g:SGuest) (iv ov nv lv:Value) (l:List Stamp) (n more:Int) (w:World) (hi:Rd 1 strCells w iv g.images) (ho:Rd 5 Chan.cells w ov g.outs) (hn:Rd 5 Chan.cells w nv g.ins_) (hl:Rd 3 Stamp.cells w lv l) (hx:PartOk g.x) (hs:SmallStamps l) (hT:Tab w):
 Calls Tryz.prog 8 #[.agg (dgcells g iv ov nv lv n more)] w (Gives (.bool true) w):=by
 obtain ⟨la,lc,rfl,hlc,hlm⟩:=hl.shape
 have HT:=hU (fun W (h:Below w.heap.size w W)=> hT.below h)
 have HI:=hU (fun W (h:Below w.heap.size w W)=> hi.below h)
 have HO:=hU (fun W (h:Below w.heap.size w W)=> ho.below h)
 have HN:=hU (fun W (h:Below w.heap.size w W)=> hn.below h)
 have HD:=hU (fun W (h:Below w.heap.size w W)=> hl.below h)
 have HON:=hU (onesGD hi ho hn)
 clear hi ho hn hT
 obtain ⟨Wn,hW0,hb0,HP⟩:=nb1 (W:=w) (.cells (dgcells g iv ov nv (.slice la l.length lc) n more) 73) rfl
 have HB:=hU hb0
 clear hb0
 obtain ⟨bHQ,hab,habHQ⟩:=nbz HB
 have hxHPHQ:=nlt HP hab
 have HPo:=HP
 obtain ⟨Wn,hWn,hba,HQ⟩:=nb1 (W:=Wn) (.cells #[.int .i64 0,.int .i64 0,.int .i64 0,.int .i64 0,.slice none 0 0,.slice none 0 0,.slice none 0 0] 70) hab
 replace HP:=nB hba HP
 replace HB:=nW hba HB
 clear hba
 go_enter Tryz.func8,Tryz.ntmps8
 repeat' (first
  |(rw [hW0];clear hW0)
  |(rw [hWn,hab];clear hWn hab)
  |(refine wpList_load (t:=70) (v:=.agg (sgcells g iv ov nv)) rfl rfl rfl (run_load_part aggDGuest HPo.out (din_guest ..) rfl) ?_;clear HPo)
  |(refine wpList_store (t:=70) (v:=.agg (sgcells g iv ov nv)) (off:=0) (new:=sgcells g iv ov nv) rfl rfl rfl rfl aggDGuest.size HQ.out rfl (show 0 + 7≤7 by decide) HON.out rfl ?_;intro Wn hp
    replace HB:=pW hp HB
    replace HP:=pT hp HQ HP
    replace HQ:=pA hp
    clear hp
    have p7:Wn.cell? ⟨w.heap.size,7,none⟩=some (.slice la l.length lc):=hcell HP.out 7
    have p8:Wn.cell? ⟨w.heap.size,8,none⟩=some (.int .i64 n):=hcell HP.out 8
    have p9:Wn.cell? ⟨w.heap.size,9,none⟩=some (.int .i64 more):=hcell HP.out 9)
  |go_values|go_skip|go_guarded|(with_reducible refine wg ?_)|go_step|go_upon)
 clear HON p7 p8 p9
 refine (LShownD _ (HT.out _ HB.out)).mono ?_
 rintro er Wn ⟨rfl,hb⟩
 replace HP:=nB hb HP
 replace HQ:=nB hb HQ
 replace HB:=nW hb HB
 clear hb
 dsimp only
 repeat' (first
  |(refine wpList_load (t:=70) (v:=.agg (sgcells g iv ov nv)) rfl rfl rfl (run_load_whole aggDGuest HQ.out rfl) ?_)
  |go_values|go_skip|go_guarded|(with_reducible refine wg ?_)|go_step|go_upon)
 refine (LFewD g iv ov nv _ (HI.out _ HB.out) (HO.out _ HB.out) (HN.out _ HB.out)).mono ?_
 rintro er Wn ⟨rfl,hb⟩
 replace HP:=nB hb HP
 replace HQ:=nB hb HQ
 replace HB:=nW hb HB
 clear hb
 dsimp only
 cases hfew:fewS g
 · repeat' (first|go_values|go_skip|go_guarded|(with_reducible refine wg ?_)|go_step|go_upon)
   go_ret
   exact gives_of rfl HB.out
 have HG:=hU (few_okS hfew hx)
 clear hfew
 by_cases c0:n<0
 · have d0:decide (n<0)=true:=by simp [c0]
   repeat' (first|go_values|go_skip|go_guarded|(with_reducible refine wg ?_)|go_step|go_upon)
   go_ret
   exact gives_of rfl HB.out
 have d0:decide (n<0)=false:=by simp [c0]
 by_cases c1:more<0
 · have d1:decide (more<0)=true:=by simp [c1]
   repeat' (first|go_values|go_skip|go_guarded|(with_reducible refine wg ?_)|go_step|go_upon)
   go_ret
   exact gives_of rfl HB.out
 have d1:decide (more<0)=false:=by simp [c1]
 by_cases c2:200<n
 · have d2:decide (200<n)=true:=by simp [c2]
   repeat' (first|go_values|go_skip|go_guarded|(with_reducible refine wg ?_)|go_step|go_upon)
   go_ret
   exact gives_of rfl HB.out
 have d2:decide (200<n)=false:=by simp [c2]
 by_cases c3:200<more
 · have d3:decide (200<more)=true:=by simp [c3]
   repeat' (first|go_values|go_skip|go_guarded|(with_reducible refine wg ?_)|go_step|go_upon)
   go_ret
   exact gives_of rfl HB.out
 have d3:decide (200<more)=false:=by simp [c3]
 by_cases c4:100<(l.length:Int)
 · have d4:decide (100<(l.length:Int))=true:=by simp [c4]
   repeat' (first|go_values|go_skip|go_guarded|(with_reducible refine wg ?_)|go_step|go_upon)
   go_ret
   exact gives_of rfl HB.out
 have d4:decide (100<(l.length:Int))=false:=by simp [c4]
 have hw:IntKind.i64.wrap (n + more)=n + more:=by rw [IntKind.wrap_i64];omega
 have hwu:IntKind.u64.wrap (n + more)=n + more:=by rw [IntKind.wrap_u64];omega
 obtain ⟨gr,hnw⟩:=drun_grows HG.out hs n.toNat more.toNat (by omega)
 have htn:(n + more).toNat=n.toNat + more.toNat:=by omega
 have HG1:=hU gr
 have HG2:=hU hnw
 have HTN:=hU htn
 clear gr hnw htn
 have g4:Wn.cell? ⟨bHQ,4,none⟩=some iv:=hcell HQ.out 4
 have g5:Wn.cell? ⟨bHQ,5,none⟩=some ov:=hcell HQ.out 5
 have g6:Wn.cell? ⟨bHQ,6,none⟩=some nv:=hcell HQ.out 6
 repeat' (first
  |(refine wpList_load (t:=24) (v:=.agg g.x.cells) rfl rfl rfl (run_load_part aggPart HQ.out (sgcells_partD _ _ _ _) rfl) ?_)
  |go_values|go_skip|go_guarded|(with_reducible refine wg ?_)|go_step|go_upon)
 clear g4 g5 g6
 refine (SRun17 g iv ov nv (.slice la l.length lc) l n _ (HI.out _ HB.out) (HO.out _ HB.out) (HN.out _ HB.out) (HD.out _ HB.out) HG.out hs (by omega) (HT.out _ HB.out)).mono ?_
 rintro er Wn ⟨vA,rfl,⟨yA,bsA,rfl,hl⟩,hb⟩
 replace HP:=nB hb HP
 replace HQ:=nB hb HQ
 replace HB:=nW hb HB
 clear hb
 have HLA:=hU hl
 clear hl
 dsimp only
 obtain ⟨sa,hsa⟩:∃ sa,drun g l n.toNat=sa:=⟨_,rfl⟩
 rw [hsa] at HLA HG1 ⊢
 clear hsa
 obtain ⟨bHA,hab,habHA⟩:=nbz HB
 have hxHPHA:=nlt HP hab
 have hxHQHA:=nlt HQ hab
 obtain ⟨Wn,hWn,hba,HA⟩:=nb1 (W:=Wn) (.cells #[.slice none 0 0,.slice none 0 0,.int .i64 0,.slice none 0 0,.slice none 0 0,.int .i64 0,.slice none 0 0,.int .u64 0,.slice none 0 0,.slice none 0 0,.slice none 0 0,.slice none 0 0,.string ⟨#[]⟩,.slice none 0 0,.slice none 0 0,.int .i64 0,.int .i64 0,.int .i64 0,.int .i64 0] 50) hab
 replace HP:=nB hba HP
 replace HQ:=nB hba HQ
 replace HLA:=nL hba HLA
 replace HB:=nW hba HB
 clear hba
 have HO:=hU (onesS HLA.out)
 repeat' (first
  |(rw [hWn,hab];clear hWn hab)
  |(refine wpList_store (t:=50) (v:=.agg (scells yA sa)) (off:=0) (new:=scells yA sa) rfl rfl rfl rfl aggSeat.size HA.out rfl (show 0 + 19≤19 by decide) HO.out rfl ?_;intro Wn hp
    replace HB:=pW hp HB
    replace HP:=pT hp HA HP
    replace HQ:=pT hp HA HQ
    replace HLA:=pL hp HA HLA noSeat
    replace HA:=pA hp
    clear hp
    have g4:Wn.cell? ⟨bHQ,4,none⟩=some iv:=hcell HQ.out 4
    have g5:Wn.cell? ⟨bHQ,5,none⟩=some ov:=hcell HQ.out 5
    have g6:Wn.cell? ⟨bHQ,6,none⟩=some nv:=hcell HQ.out 6)
  |(refine wpList_load (t:=24) (v:=.agg g.x.cells) rfl rfl rfl (run_load_part aggPart HQ.out (sgcells_partD _ _ _ _) rfl) ?_)
  |go_values|go_skip|go_guarded|(with_reducible refine wg ?_)|go_step|go_upon)
 clear HO
 clear g4 g5 g6
 refine (SRun17 g iv ov nv (.slice la l.length lc) l (n + more) _ (HI.out _ HB.out) (HO.out _ HB.out) (HN.out _ HB.out) (HD.out _ HB.out) HG.out hs (by omega) (HT.out _ HB.out)).mono ?_
 rintro er Wn ⟨vB,rfl,⟨yB,bsB,rfl,hl⟩,hb⟩
 replace HP:=nB hb HP
 replace HQ:=nB hb HQ
 replace HA:=nB hb HA
 replace HLA:=nL hb HLA
 replace HB:=nW hb HB
 clear hb
 have HLB:=hU hl
 clear hl
 dsimp only
 rw [HTN.out] at HLB ⊢
 obtain ⟨sb,hsb⟩:∃ sb,drun g l (n.toNat + more.toNat)=sb:=⟨_,rfl⟩
 rw [hsb] at HLB HG1 HG2 ⊢
 clear hsb
 obtain ⟨⟨tq,htq⟩,⟨cq,hcq⟩,hnow,_⟩:=HG1.out
 have hcz:sa.k.cons.size≤sb.k.cons.size:=by rw [hcq,ByteArray.size_append];omega
 have c3:sb.k.cons.extract 0 sa.k.cons.size=sa.k.cons:=by rw [hcq];exact cut_leftD _ _
 have hbeg:evBeg sa.k.trace sb.k.trace=true:=(evBeg_iff _ _).2 ⟨tq,htq⟩
 have hnw2:=HG2.out
 have e2:decide (sa.k.now≤sb.k.now)=true:=by simp [hnow]
 have e3:decide (sb.k.now≤n + more)=true:=by simp;omega
 have e1:decide ((sa.k.cons.size:Int)≤(sb.k.cons.size:Int))=true:=by simp;omega
 have HBG:=hU hbeg
 clear htq hcq hnow hbeg hnw2
 obtain ⟨bHB2,hab,habHB2⟩:=nbz HB
 have hxHPHB2:=nlt HP hab
 have hxHQHB2:=nlt HQ hab
 have hxHAHB2:=nlt HA hab
 obtain ⟨Wn,hWn,hba,HB2⟩:=nb1 (W:=Wn) (.cells #[.slice none 0 0,.slice none 0 0,.int .i64 0,.slice none 0 0,.slice none 0 0,.int .i64 0,.slice none 0 0,.int .u64 0,.slice none 0 0,.slice none 0 0,.slice none 0 0,.slice none 0 0,.string ⟨#[]⟩,.slice none 0 0,.slice none 0 0,.int .i64 0,.int .i64 0,.int .i64 0,.int .i64 0] 50) hab
 replace HP:=nB hba HP
 replace HQ:=nB hba HQ
 replace HA:=nB hba HA
 replace HLA:=nL hba HLA
 replace HLB:=nL hba HLB
 replace HB:=nW hba HB
 clear hba
 have HO:=hU (onesS HLB.out)
 repeat' (first
  |(rw [hWn,hab];clear hWn hab)
  |(refine wpList_store (t:=50) (v:=.agg (scells yB sb)) (off:=0) (new:=scells yB sb) rfl rfl rfl rfl aggSeat.size HB2.out rfl (show 0 + 19≤19 by decide) HO.out rfl ?_;intro Wn hp
    replace HB:=pW hp HB
    replace HP:=pT hp HB2 HP
    replace HQ:=pT hp HB2 HQ
    replace HA:=pO hp HA
    replace HLA:=pL hp HB2 HLA noSeat
    replace HLB:=pL hp HB2 HLB noSeat
    replace HB2:=pA hp
    clear hp)
  |go_values|go_skip|go_guarded|(with_reducible refine wg ?_)|go_step|go_upon)
 clear HO
 refine wp_region_noPanic ?_
 refine go0 (S:=fun W=> W.cell? ⟨bHA,12,none⟩=some (.string sa.k.cons)∧W.cell? ⟨bHB2,12,none⟩=some (.string sb.k.cons)) [] (⟨hcell HA.out 12,hcell HB2.out 12⟩) fun hS=> ?_
 refine tp 0 ?_;(try simp only [acts])
 refine tp 1 ?_;(try simp only [acts])
 refine tl 2 ?_;(try simp only [acts])
 refine tp 3 ?_;(try simp only [acts])
 refine tp 4 ?_;(try simp only [acts])
 refine tp 5 ?_;(try simp only [acts])
 refine tl 6 ?_;(try simp only [acts])
 refine tp 7 ?_;(try simp only [acts])
 refine tp 8 ?_;(try simp only [acts])
 refine tp 9 ?_;(try simp only [acts])
 refine tp 10 ?_;(try simp only [acts])
 refine tp 11 ?_;(try simp only [acts])
 refine tl 12 ?_;(try simp only [acts])
 refine tp 13 ?_;(try simp only [acts])
 refine tp 14 ?_;(try simp only [acts])
 refine tl 15 ?_;(try simp only [acts])
 refine tp 16 ?_;(try simp only [acts])
 refine tp 17 ?_;(try simp only [acts])
 refine tp 18 ?_;(try simp only [acts])
 refine tp 19 ?_;(try simp only [acts])
 refine tl 20 ?_;(try simp only [acts])
 refine tp 21 ?_;(try simp only [acts])
 refine tp 22 ?_;(try simp only [acts])
 refine tp 23 ?_;(try simp only [acts])
 refine doneL (by kernel_rfl) (NoPanic.normal ?_) _
 clear hS
 obtain ⟨Wm,hWd⟩:=exW Wn.drew
 replace HA:=dB hWd HA
 replace HB2:=dB hWd HB2
 replace HLA:=dL hWd HLA
 replace HLB:=dL hWd HLB
 replace HB:=dW hWd HB
 rw [hWd]
 clear hWd
 obtain ⟨Wn,rfl⟩:∃ Wn,Wn=Wm:=⟨_,rfl⟩
 obtain ⟨ta,tc,hta,_,_⟩:=HLA.out.tr.shape
 obtain ⟨tb,td,htb,_,_⟩:=HLB.out.tr.shape
 have HRA:=hU HLA.out.tr.rd
 have HRB:=hU HLB.out.tr.rd
 have f1:Wn.cell? ⟨bHA,13,none⟩=some yA.tr:=hcell HA.out 13
 have f2:Wn.cell? ⟨bHB2,13,none⟩=some yB.tr:=hcell HB2.out 13
 rw [hta] at f1 HRA
 rw [htb] at f2 HRB
 clear hta htb
 repeat' (first|go_values|go_skip|go_guarded|(with_reducible refine wg ?_)|go_step|go_upon)
 refine (SBegins _ _ sa.k.trace sb.k.trace _ HRA.out HRB.out).mono ?_
 rintro er Wn ⟨rfl,hb⟩
 replace HA:=nB hb HA
 replace HB2:=nB hb HB2
 replace HB:=nW hb HB
 clear hb
 dsimp only
 rw [HBG.out]
 have f3:Wn.cell? ⟨bHA,7,none⟩=some (.int .u64 sa.k.now):=hcell HA.out 7
 have f4:Wn.cell? ⟨bHB2,7,none⟩=some (.int .u64 sb.k.now):=hcell HB2.out 7
 repeat' (first|go_values|go_skip|go_guarded|(with_reducible refine wg ?_)|go_step|go_upon)
 go_ret
 exact gives_of rfl HB.out
end Kn
end Go.Proofs.YtbhecddpnpkdpaaGreatDoor
namespace Go.Proofs.YtbhecddpnpkdpaaGreatDoor.lawDedGrows
open Go.ChangeShapes Go.WideShapes Go.ChangeAt Go.RowKit
theorem contract (H:Type) (enc:TypeId × Value→H) (W:World) (base:Nat) (args:Array Value) (ds gs:List (DataW H)) (before:List MemPlace)
 (hval:∀ (j:Nat) t v,Tryz.f8.params[j]? =some t→args[j]? =some v→Value.okWide Tryz.prog W .any base t v)
 (hW:DataW.Whole enc Tryz.prog Tryz.f8.params.toList Rows.dedGrowsSpec.vars false W args.toList ds gs before) (hL:laidMetH Tryz.prog Rows.dedGrowsRow.laid W)
 (hr:(DataW.weightsEach Tryz.prog (Tryz.f8.params.toList ++ (OpenSpec.ofChange Rows.dedGrowsSpec).bare.plain.varTypes Tryz.prog) (ds ++ gs)).all (· ≤reachBytes)=true):
 Calls Tryz.prog 8 args W fun e W'=> ∃ v,e=.returned v∧Rows.dedGrowsSpec.post enc Tryz.prog Tryz.f8 false true false false W args v W':=by
 have hW':=hW
 obtain ⟨p,q,hA0,hV,rfl,hfz,hnd⟩:=hW
 have hA:DataW.TrodAll enc Tryz.prog W 0 (fun _=> true) true Tryz.f8.params.toList args.toList ds p:=hA0
 rw [Tryz.params8] at hA hval
 obtain ⟨v0,d0,rfl,rfl,h0⟩:=trodAll_one hA
 obtain ⟨rfl,rfl⟩:=trodVars_none hV
 obtain ⟨g,iv,ov,nv,lv,l,n,more,rfl,hi,ho,hn,hl,hx,hwl⟩:=Kn.open_grows (hval 0 73 v0 rfl rfl) h0
 have hsl:=fun a ha=> Kn.small_of (j:=0) hr (by kernel_rfl) rfl (hwl a ha)
 refine (Kn.LDedGrows g iv ov nv lv l n more W hi ho hn hl hx hsl (tab_of hL)).mono fun e W' ⟨he,hb⟩=> ?_
 subst he
 exact ⟨_,rfl,law_post (tb:=4) hW' rfl rfl rfl rfl (by kernel_rfl) Tryz.underlying4 laid_outB (by rw [Tryz.params8];decide +kernel) hb⟩
abbrev zeros:Array Value:=#[.agg #[.int .i64 0,.int .i64 0,.int .i64 0,.int .i64 0,.slice none 0 0,.slice none 0 0,.slice none 0 0,.slice none 0 0,.int .i64 0,.int .i64 0]]
theorem laid_met (os:Os):laidMet Tryz.prog Rows.dedGrowsRow.laid ((laidWorld os).forCall (fun _ _=> 0) ⟨#[],zeros,[]⟩).memory:=
 laidMet_of_run' 8 (by kernel_rfl) (by kernel_rfl)
theorem reads (os:Os) {H:Type} (enc:TypeId × Value→H):∃ places,DataW.whole enc Tryz.prog ((laidWorld os).forCall (fun _ _=> 0) ⟨#[],zeros,[]⟩).memory Tryz.f8.params.toList Rows.dedGrowsSpec.vars false zeros.toList 8=some ([.agg [.agg [.agg [.lit (.int .i64 0),.agg [.lit (.int .i64 0),.lit (.int .i64 0),.lit (.int .i64 0)]],.nil,.nil,.nil],.nil,.lit (.int .i64 0),.lit (.int .i64 0)]],[],places):=
 ⟨[],by kernel_rfl⟩
theorem lifted (os:Os) (started:os.Started) (H:Type) (enc:TypeId × Value→H) (F:Stop.Interp):
 ReturnsInHanded {} Tryz.checked os 8 .any ((OpenSpec.ofChange Rows.dedGrowsSpec).preRow enc Tryz.prog Tryz.f8 Rows.dedGrowsRow.domain false Rows.dedGrowsRow.laid) (((OpenSpec.ofChange Rows.dedGrowsSpec).at F).post enc Tryz.prog Tryz.f8 false true false false):=by
 obtain ⟨places,hx⟩:=reads os enc
 refine returnsInHanded_of_row (C:=Tryz.checked) (s:=OpenSpec.ofChange Rows.dedGrowsSpec) own started (by kernel_rfl) Tryz.func8
  (witness_row_at (enc:=enc) (C:=Tryz.checked) false (laidWorld os) zeros rfl (by kernel_rfl) (by kernel_rfl) (by kernel_rfl)
    (OpenSpec.preRow_of_cond 8 hx (by kernel_rfl) (fun k hk=> by cases hk) (by kernel_rfl) (laid_met os))) ?_
 intro W base args ds gs before hval hW _ hcond hr hL _ _
 exact contract H enc W base args ds gs before hval hW hL hr
theorem said:Rows.DedGrowsSaid:=
 OpenClaim.holds_of_cond 8 Tryz.f8 rfl rfl rfl rfl rfl rfl rfl ⟨rfl,rfl,rfl,rfl,rfl⟩ rfl rfl rfl rfl rfl (by kernel_rfl) Tryz.func8 (by kernel_rfl)
  (of_decide_eq_true (by kernel_rfl)) (by unfold Func.isWrapper;first|(rw [if_pos (by decide +kernel)];kernel_rfl)|(rw [if_neg (by decide +kernel)];exact ⟨rfl,rfl⟩))
  (fun os started H enc _ F=> by rw [OpenClaim.pre_eq_preRow];exact lifted os started H enc F)
theorem plain (f:FuncId) (fn:Func) (hf:Tryz.pinned.checked.prog.funcNamed "transom/transomlaw17.DedGrows" =some f) (hfn:Tryz.pinned.checked.prog.funcs[f]? =some fn):
 false=Tryz.pinned.checked.prog.looks []∧∀ (j:Nat) t,fn.params[j]? =some t→Tryz.pinned.checked.prog.wantsStandIn t=false:=by
 obtain rfl:f=8:=Option.some.inj ((show Tryz.prog.funcNamed "transom/transomlaw17.DedGrows" =some 8 by kernel_rfl).symm.trans hf)|>.symm
 obtain rfl:fn=Tryz.f8:=(Option.some.inj (Tryz.func8.symm.trans hfn)).symm
 refine ⟨looks_off,fun j t ht=> ?_⟩
 have hm:=Array.mem_of_getElem? ht
 rw [Tryz.params8] at hm
 have hall:∀ t ∈ (#[73]:Array TypeId),Tryz.prog.wantsStandIn t=false:=by decide +kernel
 exact hall t hm
theorem card:Rows.DedGrowsCardSaid:=
 Claim7.holds_tied_plain_at .later [] _ _ _ _ said (fun _ h=> by cases h) (by kernel_rfl) (fun _ h=> by cases h) dedGrows_row_tie rfl ⟨rfl,rfl⟩ (by kernel_rfl) rfl plain (by kernel_rfl)
#print axioms card
end Go.Proofs.YtbhecddpnpkdpaaGreatDoor.lawDedGrows
