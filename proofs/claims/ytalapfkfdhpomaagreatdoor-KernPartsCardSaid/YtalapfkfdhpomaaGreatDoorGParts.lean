/- The law KernParts: it answers true. Conditions: rows that there can be; the table of the instructions' parts lies there. What the law is asked of, as it comes in. No condition. The card of KernParts: so many cycles, and so many more, are those of both together; for every guest, every script. -/
import Derived.Test.YtalapfkfdhpomaaGreatDoorGLaw
import Derived.Test.YtalapfkfdhpomaaGreatDoorGSame
import Derived.Test.YtalapfkfdhpomaaGreatDoorGCard
set_option linter.unusedVariables false
set_option linter.unusedSimpArgs false
namespace Go.Proofs.YtalapfkfdhpomaaGreatDoor
open Go.RowKit KR RegT3
namespace Kn
def pcells (g:Guest) (iv ov nv lv:Value) (x y:Int):Array Value:=#[.int .i64 g.mem,iv,ov,nv,.int .u64 g.now,lv,.int .i64 x,.int .i64 y]
theorem onesG {w:World} {g:Guest} {iv ov nv:Value} (hi:Rd 1 strCells w iv g.images) (ho:Rd 5 Chan.cells w ov g.outs) (hn:Rd 5 Chan.cells w nv g.ins_):∀ u ∈ (Value.agg (gcells g iv ov nv)).cells.toList,u.oneCell'=true:=by
 obtain ⟨_,_,rfl,_⟩:=hi.shape
 obtain ⟨_,_,rfl,_⟩:=ho.shape
 obtain ⟨_,_,rfl,_⟩:=hn.shape
 intro u hu
 simp only [Value.cells,gcells,List.mem_cons,List.not_mem_nil,or_false] at hu
 rcases hu with rfl|rfl|rfl|rfl|rfl <;> rfl
set_option maxRecDepth 100000 in
set_option maxHeartbeats 4000000 in
theorem LParts (g:Guest) (iv ov nv lv:Value) (l:List Deed) (x y:Int) (w:World) (hi:Rd 1 strCells w iv g.images) (ho:Rd 5 Chan.cells w ov g.outs) (hn:Rd 5 Chan.cells w nv g.ins_) (hl:SlDeed w lv l) (n0:0≤g.now) (n1:g.now≤18446744073709551615) (m0: -9223372036854775808≤g.mem) (m1:g.mem≤9223372036854775807) (hs:SmallDeeds l) (hT:Tab w):
 Calls Tryz.prog 7 #[.agg (pcells g iv ov nv lv x y)] w (Gives (.bool true) w):=by
 have HT:=hU (fun W (h:Below w.heap.size w W)=> hT.below h)
 have HI:=hU (fun W (h:Below w.heap.size w W)=> hi.below h)
 have HO:=hU (fun W (h:Below w.heap.size w W)=> ho.below h)
 have HN:=hU (fun W (h:Below w.heap.size w W)=> hn.below h)
 have HD:=hU (fun W (h:Below w.heap.size w W)=> hl.below h)
 have HOG:=hU (onesG hi ho hn)
 clear hi ho hn hl hT
 obtain ⟨W0,hW0,hb0,HP_0⟩:=nb1 (W:=w) (.cells (pcells g iv ov nv lv x y) 74) rfl
 have HPB:=hU hb0
 obtain ⟨q,haq,hwq⟩:∃ q,W0.heap.size=q∧w.heap.size<q:=⟨_,rfl,hlt HP_0.out⟩
 obtain ⟨W9,hW9,hb9,HQ_z⟩:=nb1 (.cells #[.int .i64 0,.slice none 0 0,.slice none 0 0,.slice none 0 0,.int .u64 0] 26) haq
 have HP_9:=nB hb9 HP_0
 have HPB9:=hU (HPB.out.trans (hb9.mono HPB.out.size))
 clear hb0 hb9
 go_enter Tryz.func7,Tryz.ntmps7
 repeat' (first
  |(rw [hW0];clear hW0)
  |(refine wpList_load (t:=26) (v:=.agg (gcells g iv ov nv)) rfl rfl rfl (run_load_part aggGuest HP_0.out rfl rfl) ?_)
  |(rw [hW9,haq];clear hW9)
  |(refine wpList_store (t:=26) (v:=.agg (gcells g iv ov nv)) (off:=0) (new:=gcells g iv ov nv) rfl rfl rfl rfl aggGuest.size HQ_z.out rfl (show 0 + 5≤5 by decide) HOG.out rfl ?_;intro WA hp
    have HQ_0:=pA hp
    have HP_A:=pO hp HP_9
    have HB_0:=hU (Below.put HPB9.out hp (by omega))
    have p5:WA.cell? ⟨w.heap.size,5,none⟩=some lv:=hcell HP_A.out 5
    have p6:WA.cell? ⟨w.heap.size,6,none⟩=some (.int .i64 x):=hcell HP_A.out 6
    have p7:WA.cell? ⟨w.heap.size,7,none⟩=some (.int .i64 y):=hcell HP_A.out 7
    clear hp HQ_z HP_9 HP_0 HPB9 HPB)
  |go_values|go_skip|go_guarded|(with_reducible refine Way.go ?_)|go_step|go_upon)
 clear haq HOG
 refine (LShown _ (HT.out _ HB_0.out)).mono ?_
 rintro er W1 ⟨rfl,hb⟩
 have HQ_1:=nB hb HQ_0
 have HB_1:=hU (HB_0.out.trans (hb.mono HB_0.out.size))
 clear hb HQ_0 HB_0 HP_A p5 p6 p7
 dsimp only
 repeat' (first|(refine wpList_load (t:=26) (v:=.agg (gcells g iv ov nv)) rfl rfl rfl (run_load_whole aggGuest HQ_1.out rfl) ?_)|go_values|go_skip|go_guarded|(with_reducible refine Way.go ?_)|go_step|go_upon)
 refine (LFew g iv ov nv _ (HI.out _ HB_1.out) (HO.out _ HB_1.out) (HN.out _ HB_1.out)).mono ?_
 rintro er W2 ⟨rfl,hb⟩
 have HQ_2:=nB hb HQ_1
 have HB_2:=hU (HB_1.out.trans (hb.mono HB_1.out.size))
 clear hb HQ_1 HB_1
 dsimp only
 cases hfew:fewB g
 · repeat' (first|go_values|go_skip|go_guarded|(with_reducible refine Way.go ?_)|go_step|go_upon)
   go_ret
   exact gives_of rfl HB_2.out
 have HG:=hU (few_ok hfew n0 n1 m0 m1)
 clear hfew
 by_cases c1:x<0
 · have d1:decide (x<0)=true:=decide_eq_true c1
   repeat' (first|go_values|go_skip|go_guarded|(with_reducible refine Way.go ?_)|go_step|go_upon)
   go_ret
   exact gives_of rfl HB_2.out
 have d1:decide (x<0)=false:=decide_eq_false c1
 by_cases c2:y<0
 · have d2:decide (y<0)=true:=decide_eq_true c2
   repeat' (first|go_values|go_skip|go_guarded|(with_reducible refine Way.go ?_)|go_step|go_upon)
   go_ret
   exact gives_of rfl HB_2.out
 have d2:decide (y<0)=false:=decide_eq_false c2
 by_cases c3:60<x
 · have d3:decide (60<x)=true:=decide_eq_true c3
   repeat' (first|go_values|go_skip|go_guarded|(with_reducible refine Way.go ?_)|go_step|go_upon)
   go_ret
   exact gives_of rfl HB_2.out
 have d3:decide (60<x)=false:=decide_eq_false c3
 by_cases c4:60<y
 · have d4:decide (60<y)=true:=decide_eq_true c4
   repeat' (first|go_values|go_skip|go_guarded|(with_reducible refine Way.go ?_)|go_step|go_upon)
   go_ret
   exact gives_of rfl HB_2.out
 have d4:decide (60<y)=false:=decide_eq_false c4
 repeat' (first|(refine wpList_load (t:=26) (v:=.agg (gcells g iv ov nv)) rfl rfl rfl (run_load_whole aggGuest HQ_2.out rfl) ?_)|go_values|go_skip|go_guarded|(with_reducible refine Way.go ?_)|go_step|go_upon)
 refine (SPlays g iv ov nv lv l _ (HI.out _ HB_2.out) (HO.out _ HB_2.out) (HN.out _ HB_2.out) (HD.out _ HB_2.out) HG.out hs (HT.out _ HB_2.out)).mono ?_
 rintro er W3 ⟨v3,rfl,⟨yk,bs,rfl,hl3⟩,hb⟩
 have HQ_3:=nB hb HQ_2
 have HB_3:=hU (HB_2.out.trans (hb.mono HB_2.out.size))
 have HL_3:=hU hl3
 have hz3:w.heap.size<W3.heap.size:=by have:=hlt HQ_3.out;omega
 clear hb HQ_2 HB_2 hl3
 dsimp only
 obtain ⟨k,hk⟩:∃ k,plays g l=k:=⟨_,rfl⟩
 have HGD:Hid (Good 1800 k):=hU (by rw [← hk];exact plays_good HG.out hs)
 rw [hk] at HL_3 ⊢
 have HKP:=hU hk
 clear hk
 obtain ⟨b,hab,hbb,hqb⟩:∃ b,W3.heap.size=b∧w.heap.size<b∧q<b:=⟨_,rfl,hz3,hlt HQ_3.out⟩
 obtain ⟨W4,hW4,hb4,HK_4⟩:=nb1 (.cells #[.slice none 0 0,.slice none 0 0,.int .i64 0,.slice none 0 0,.slice none 0 0,.int .i64 0,.slice none 0 0,.int .u64 0,.slice none 0 0,.slice none 0 0,.slice none 0 0,.slice none 0 0,.string ⟨#[]⟩,.slice none 0 0,.slice none 0 0,.int .i64 0,.int .i64 0] 43) hab
 have HB_4:=hU (HB_3.out.trans (hb4.mono HB_3.out.size))
 have HQ_4:=nB hb4 HQ_3
 have HL_4:=nL hb4 HL_3
 clear hb4 HB_3 HQ_3 HL_3
 have HON:=hU (onesK HL_4.out)
 repeat' (first
  |(rw [hW4,hab];clear hW4)
  |(refine wpList_store (t:=43) (v:=.agg (kcells yk k)) (off:=0) (new:=kcells yk k) rfl rfl rfl rfl aggKern.size HK_4.out rfl (show 0 + 17≤17 by decide) HON.out rfl ?_;intro W5 hp
    have HK_5:=pA hp
    have HQ_5:=pO hp HQ_4
    have HE_5:Hid (KR.Kept b w W5):=pK hp (hU (Kept.of HB_4.out))
    have HL_5:=pL hp HK_4 HL_4 noKern
    clear hp HK_4 HQ_4 HB_4 HL_4)
  |go_values|go_skip|go_guarded|(with_reducible refine Way.go ?_)|go_step|go_upon)
 clear hab hz3 HON
 obtain ⟨m,rfl⟩:=Int.eq_ofNat_of_zero_le (show 0≤x by omega)
 obtain ⟨n,rfl⟩:=Int.eq_ofNat_of_zero_le (show 0≤y by omega)
 have HB_5:=hU (Kept.low HE_5.out (by omega))
 have e1:=fun W h1 h2=> SRun (.agg (kcells yk k)) k m (m:Int) W h1 rfl (by omega) (fun j hj=> (HGD.out.run j).ready (by omega)) h2
 have e2:=fun v W h1 h2=> SRun v (run m k) n (n:Int) W h1 rfl (by omega) (fun j hj=> ((HGD.out.run m).run j).ready (by omega)) h2
 have e3:=fun W h1 h2=> SRun (.agg (kcells yk k)) k (m + n) ((m:Int) + (n:Int)) W h1 (by omega) (by omega) (fun j hj=> (HGD.out.run j).ready (by omega)) h2
 rw [run_add] at e3
 have e4:=fun va vb W h1 h2=> SameKern va vb (run n (run m k)) W h1 h2
 have E1:=hU e1
 have E2:=hU e2
 have E3:=hU e3
 have E4:=hU e4
 have hw:IntKind.i64.wrap ((m:Int) + (n:Int))=(m:Int) + (n:Int):=by rw [IntKind.wrap_i64];omega
 clear e1 e2 e3 e4 HQ_5 HE_5 HGD d1 d2 d3 d4
 refine wp_region_noPanic ?_
 refine go0 (S:=fun W=> W.heap[b]? =some (.cells (kcells yk k) 43 (0,0))) [] HK_5.out fun hS=> ?_
 refine tv 0 (.agg (kcells yk k)) (fun W hSW=> run_val_load rfl rfl (run_load_whole aggKern hSW rfl)) ?_;(try simp only [acts])
 refine tp 1 ?_;(try simp only [acts])
 refine tp 3 ?_;(try simp only [acts])
 refine tv 5 (.agg (kcells yk k)) (fun W hSW=> run_val_load rfl rfl (run_load_whole aggKern hSW rfl)) ?_;(try simp only [acts])
 refine tp 6 ?_;(try simp only [acts])
 refine tp 7 ?_;(try simp only [acts])
 refine tp 8 ?_;(try simp only [acts])
 have HL_d:Hid (KernV W5.drew (.agg (kcells yk k)) k):=hU ⟨yk,bs,rfl,HL_5.out.below (Below.refl _ _).drew⟩
 have HB_d:=hU HB_5.out.drew
 have HK_d:Hid (W5.drew.heap[b]? =some (.cells (kcells yk k) 43 (0,0))):=hU HK_5.out
 clear HL_5 HB_5 HK_5
 refine ro 2 fun K hK=> ?_
 refine want rfl ?_
 go_simp
 refine (E1.out _ HL_d.out (HT.out _ HB_d.out)).mono ?_
 rintro er W6 ⟨v6,rfl,hk6,hb⟩
 have HL_6:=hU (HL_d.out.below hb)
 have HM_6:=hU hk6
 have HB_6:=hU (HB_d.out.trans (hb.mono HB_d.out.size))
 have HK_6:=nB hb HK_d
 clear hb hk6 HL_d HB_d HK_d
 dsimp only
 try clear hS
 refine nx hK HK_6.out fun hS=> ?_
 clear hK K
 (try simp only [acts])
 refine ro 4 fun K hK=> ?_
 refine want rfl ?_
 go_simp
 refine (E2.out _ _ HM_6.out (HT.out _ HB_6.out)).mono ?_
 rintro er W7 ⟨v7,rfl,hk7,hb⟩
 have HL_7:=hU (HL_6.out.below hb)
 have HM_7:=hU hk7
 have HB_7:=hU (HB_6.out.trans (hb.mono HB_6.out.size))
 have HK_7:=nB hb HK_6
 clear hb hk7 HL_6 HM_6 HB_6 HK_6
 dsimp only
 try clear hS
 refine nx hK HK_7.out fun hS=> ?_
 clear hK K
 (try simp only [acts])
 refine ro 9 fun K hK=> ?_
 refine want rfl ?_
 go_simp
 refine (E3.out _ HL_7.out (HT.out _ HB_7.out)).mono ?_
 rintro er W8 ⟨v8,rfl,hk8,hb⟩
 have HM_8:=hU (HM_7.out.below hb)
 have HN_8:=hU hk8
 have HB_8:=hU (HB_7.out.trans (hb.mono HB_7.out.size))
 have HK_8:=nB hb HK_7
 clear hb hk8 HL_7 HM_7 HB_7 HK_7
 dsimp only
 try clear hS
 refine nx hK HK_8.out fun hS=> ?_
 clear hK K
 (try simp only [acts])
 refine ro 10 fun K hK=> ?_
 refine want rfl ?_
 go_simp
 refine (E4.out _ _ _ HM_8.out HN_8.out).mono ?_
 rintro er W9 ⟨rfl,hb⟩
 have HB_9:=hU (HB_8.out.trans (hb.mono HB_8.out.size))
 have HK_9:=nB hb HK_8
 clear hb HM_8 HN_8 HB_8 HK_8
 dsimp only
 try clear hS
 refine nx hK HK_9.out fun hS=> ?_
 clear hK K
 (try simp only [acts])
 refine tp 11 ?_;(try simp only [acts])
 refine doneL (by kernel_rfl) (NoPanic.normal ?_) _
 clear hS
 repeat' (first|go_values|go_skip|go_guarded|(with_reducible refine Way.go ?_)|go_step|go_upon)
 go_ret
 exact gives_of rfl HB_9.out
end Kn
end Go.Proofs.YtalapfkfdhpomaaGreatDoor
namespace Go.Proofs.YtalapfkfdhpomaaGreatDoor
open Go.RowKit KR RegT3
open Go.ChangeShapes Go.WideShapes Go.ChangeAt Go.RowKit Go.Joins Go.Deep
namespace Kn
section
variable {H:Type} {enc:TypeId × Value→H} {w:World} {base b:Nat} {sp:Nat→Bool} {hd:Bool} {r:Reach}
theorem cells_pin:Tryz.prog.cellsOf 74=8:=by kernel_rfl
set_option maxRecDepth 100000 in
theorem open_pin {v:Value} {d:DataW H} {p:List MemPlace} (hv:Value.okWide Tryz.prog w r base 74 v) (h:DataW.Trod enc Tryz.prog w b sp hd 74 v d p):
 ∃ g iv ov nv lv l x y,v=.agg (pcells g iv ov nv lv x y)∧Rd 1 strCells w iv g.images∧Rd 5 Chan.cells w ov g.outs∧Rd 5 Chan.cells w nv g.ins_∧Rd 4 Deed.cells w lv l∧0≤g.now∧g.now≤18446744073709551615∧ -9223372036854775808≤g.mem∧g.mem≤9223372036854775807∧∀ a ∈ l,a.body.size ∈ d.weights Tryz.prog 74:=by
 obtain ⟨cs,rfl,hsz⟩:=okWide_struct Tryz.underlying74 hv
 rw [cells_pin] at hsz
 obtain ⟨fuel,hf⟩:=h
 obtain ⟨l0⟩:=cs
 match l0,hsz with
 |[c0,c1,c2,c3,c4,c5,c6,c7],_=>
  obtain ⟨xs,n,_,hx2,_,hlen,hg⟩:=DataW.trod_struct Tryz.underlying74 hf
  have e0:=hg 0 _ rfl
  have e1:=hg 1 _ rfl
  have e2:=hg 2 _ rfl
  have e3:=hg 3 _ rfl
  have hx:xs.length=4:=hlen
  rw [List.getElem?_eq_getElem (by omega)] at e0 e1 e2 e3
  simp only [cells_guest,cells_deeds,cells_int,Value.cells] at e0 e1 e2 e3
  have e0':DataW.trod enc Tryz.prog w b sp hd n 26 [c0,c1,c2,c3,c4]=some xs[0]:=e0
  have e1':DataW.trod enc Tryz.prog w b sp hd n 27 [c5]=some xs[1]:=e1
  obtain ⟨zs,m,_,_,_,hzl,hz⟩:=DataW.trod_struct Tryz.underlying26 e0'
  have hzx:zs.length=5:=hzl
  have g0:DataW.trod enc Tryz.prog w b sp hd m 3 (([c0,c1,c2,c3,c4].drop 0).take (Tryz.prog.cellsOf 3))=zs[0]? :=hz 0 _ rfl
  rw [List.getElem?_eq_getElem (by omega),cells_int] at g0
  have g1:DataW.trod enc Tryz.prog w b sp hd m 22 (([c0,c1,c2,c3,c4].drop 1).take (Tryz.prog.cellsOf 22))=zs[1]? :=hz 1 _ rfl
  rw [List.getElem?_eq_getElem (by omega),cells_strs] at g1
  have g2:DataW.trod enc Tryz.prog w b sp hd m 23 (([c0,c1,c2,c3,c4].drop 2).take (Tryz.prog.cellsOf 23))=zs[2]? :=hz 2 _ rfl
  rw [List.getElem?_eq_getElem (by omega),cells_chans] at g2
  have g3:DataW.trod enc Tryz.prog w b sp hd m 23 (([c0,c1,c2,c3,c4].drop 3).take (Tryz.prog.cellsOf 23))=zs[3]? :=hz 3 _ rfl
  rw [List.getElem?_eq_getElem (by omega),cells_chans] at g3
  have g4:DataW.trod enc Tryz.prog w b sp hd m 24 (([c0,c1,c2,c3,c4].drop 4).take (Tryz.prog.cellsOf 24))=zs[4]? :=hz 4 _ rfl
  rw [List.getElem?_eq_getElem (by omega),cells_u64] at g4
  obtain ⟨mm,rfl,m0,m1⟩:=open_int' g0
  obtain ⟨iv,im,hi,hi2⟩:=open_strs g1
  obtain ⟨ov,ou,ho,ho2⟩:=open_chans g2
  obtain ⟨nv,ni,hn,hn2⟩:=open_chans g3
  obtain ⟨nw,rfl,n0,n1⟩:=open_u64' g4
  obtain rfl:c1=iv:=by injection hi
  obtain rfl:c2=ov:=by injection ho
  obtain rfl:c3=nv:=by injection hn
  obtain ⟨lv,l,hl1,hl2,hl3⟩:=open_deeds e1'
  obtain rfl:c5=lv:=by injection hl1
  obtain ⟨x,rfl,_⟩:=open_int' e2
  obtain ⟨y,rfl,_⟩:=open_int' e3
  refine ⟨⟨mm,im,ou,ni,nw⟩,c1,c2,c3,c5,l,x,y,rfl,hi2,ho2,hn2,hl2,n0,n1,m0,m1,fun a ha=> ?_⟩
  obtain rfl:=(Prod.mk.inj hx2).1
  unfold DataW.weights
  rw [Tryz.underlying74]
  dsimp only
  refine DataW.weights_mem_each (j:=1) (t:=27) (d:=xs[1].1) (by rfl) ?_ _ (hl3 a ha)
  rw [List.getElem?_map,List.getElem?_eq_getElem (by omega)]
  rfl
set_option maxRecDepth 100000 in
theorem script_of {T:TypeId} {ts:List TypeId} {ds:List (DataW H)} {j:Nat} {d:DataW H} {l:List Deed} (hr:(DataW.weightsEach Tryz.prog ts ds).all (· ≤reachBytes)=true) (ht:ts[j]? =some T) (hd:ds[j]? =some d)
 (h:∀ a ∈ l,a.body.size ∈ d.weights Tryz.prog T):SmallDeeds l:=fun a ha=> by
 have h1:=List.all_eq_true.1 hr _ (DataW.weights_mem_each ht hd _ (h a ha))
 have h2:a.body.size≤reachBytes:=by simpa using h1
 unfold reachBytes at h2
 omega
end
end Kn
end Go.Proofs.YtalapfkfdhpomaaGreatDoor
namespace Go.Proofs.YtalapfkfdhpomaaGreatDoor.lawKernParts
open Go.ChangeShapes Go.WideShapes Go.ChangeAt Go.RowKit
set_option maxRecDepth 100000 in
theorem contract (H:Type) (enc:TypeId × Value→H) (W:World) (base:Nat) (args:Array Value) (ds gs:List (DataW H)) (before:List MemPlace)
 (hval:∀ (j:Nat) t v,Tryz.f7.params[j]? =some t→args[j]? =some v→Value.okWide Tryz.prog W .any base t v)
 (hW:DataW.Whole enc Tryz.prog Tryz.f7.params.toList Rows.kernPartsSpec.vars false W args.toList ds gs before) (hL:laidMetH Tryz.prog Rows.kernPartsRow.laid W)
 (hr:(DataW.weightsEach Tryz.prog (Tryz.f7.params.toList ++ (OpenSpec.ofChange Rows.kernPartsSpec).bare.plain.varTypes Tryz.prog) (ds ++ gs)).all (· ≤reachBytes)=true):
 Calls Tryz.prog 7 args W fun e W'=> ∃ v,e=.returned v∧Rows.kernPartsSpec.post enc Tryz.prog Tryz.f7 false true false false W args v W':=by
 have hW':=hW
 obtain ⟨p,q,hA0,hV,rfl,hfz,hnd⟩:=hW
 have hA:DataW.TrodAll enc Tryz.prog W 0 (fun _=> true) true Tryz.f7.params.toList args.toList ds p:=hA0
 rw [Tryz.params7] at hA hval
 obtain ⟨v0,d0,rfl,rfl,h0⟩:=trodAll_one hA
 obtain ⟨rfl,rfl⟩:=trodVars_none hV
 obtain ⟨g,iv,ov,nv,v1,l,x,y,rfl,hi,ho,hn,hl,n0,n1,m0,m1,hwl⟩:=Kn.open_pin (hval 0 74 v0 rfl rfl) h0
 have hs:=Kn.script_of (j:=0) hr (by kernel_rfl) rfl hwl
 refine (Kn.LParts g iv ov nv v1 l x y W hi ho hn hl n0 n1 m0 m1 hs (tab_of hL)).mono fun e W' ⟨he,hb⟩=> ?_
 subst he
 exact ⟨_,rfl,law_post (tb:=4) hW' rfl rfl rfl rfl (by kernel_rfl) Tryz.underlying4 laid_outB (by rw [Tryz.params7];decide +kernel) hb⟩
abbrev zeros:Array Value:=#[.agg #[.int .i64 0,.slice none 0 0,.slice none 0 0,.slice none 0 0,.int .u64 0,.slice none 0 0,.int .i64 0,.int .i64 0]]
theorem laid_met (os:Os):laidMet Tryz.prog Rows.kernPartsRow.laid ((laidWorld os).forCall (fun _ _=> 0) ⟨#[],zeros,[]⟩).memory:=
 laidMet_of_run' 8 (by kernel_rfl) (by kernel_rfl)
theorem reads (os:Os) {H:Type} (enc:TypeId × Value→H):∃ places,DataW.whole enc Tryz.prog ((laidWorld os).forCall (fun _ _=> 0) ⟨#[],zeros,[]⟩).memory Tryz.f7.params.toList Rows.kernPartsSpec.vars false zeros.toList 8=some ([.agg [.agg [.lit (.int .i64 0),.nil,.nil,.nil,.lit (.int .u64 0)],.nil,.lit (.int .i64 0),.lit (.int .i64 0)]],[],places):=
 ⟨[],by kernel_rfl⟩
set_option maxRecDepth 100000 in
theorem lifted (os:Os) (started:os.Started) (H:Type) (enc:TypeId × Value→H) (F:Stop.Interp):
 ReturnsInHanded {} Tryz.checked os 7 .any ((OpenSpec.ofChange Rows.kernPartsSpec).preRow enc Tryz.prog Tryz.f7 Rows.kernPartsRow.domain false Rows.kernPartsRow.laid) (((OpenSpec.ofChange Rows.kernPartsSpec).at F).post enc Tryz.prog Tryz.f7 false true false false):=by
 obtain ⟨places,hx⟩:=reads os enc
 refine returnsInHanded_of_row (C:=Tryz.checked) (s:=OpenSpec.ofChange Rows.kernPartsSpec) own started (by kernel_rfl) Tryz.func7
  (witness_row_at (enc:=enc) (C:=Tryz.checked) false (laidWorld os) zeros rfl (by kernel_rfl) (by kernel_rfl) (by kernel_rfl)
    (OpenSpec.preRow_of_cond 8 hx (by kernel_rfl) (fun k hk=> by cases hk) (by kernel_rfl) (laid_met os))) ?_
 intro W base args ds gs before hval hW _ hcond hr hL _ _
 exact contract H enc W base args ds gs before hval hW hL hr
theorem said:Rows.KernPartsSaid:=
 OpenClaim.holds_of_cond 7 Tryz.f7 rfl rfl rfl rfl rfl rfl rfl ⟨rfl,rfl,rfl,rfl,rfl⟩ rfl rfl rfl rfl rfl (by kernel_rfl) Tryz.func7 (by kernel_rfl)
  (of_decide_eq_true (by kernel_rfl)) (by unfold Func.isWrapper;first|(rw [if_pos (by decide +kernel)];kernel_rfl)|(rw [if_neg (by decide +kernel)];exact ⟨rfl,rfl⟩))
  (fun os started H enc _ F=> by rw [OpenClaim.pre_eq_preRow];exact lifted os started H enc F)
theorem plain (f:FuncId) (fn:Func) (hf:Tryz.pinned.checked.prog.funcNamed "transom/transomlaw13.KernParts" =some f) (hfn:Tryz.pinned.checked.prog.funcs[f]? =some fn):
 false=Tryz.pinned.checked.prog.looks []∧∀ (j:Nat) t,fn.params[j]? =some t→Tryz.pinned.checked.prog.wantsStandIn t=false:=by
 obtain rfl:f=7:=Option.some.inj ((show Tryz.prog.funcNamed "transom/transomlaw13.KernParts" =some 7 by kernel_rfl).symm.trans hf)|>.symm
 obtain rfl:fn=Tryz.f7:=(Option.some.inj (Tryz.func7.symm.trans hfn)).symm
 refine ⟨looks_off,fun j t ht=> ?_⟩
 have hm:=Array.mem_of_getElem? ht
 rw [Tryz.params7] at hm
 have hall:∀ t ∈ (#[74]:Array TypeId),Tryz.prog.wantsStandIn t=false:=by decide +kernel
 exact hall t hm
theorem card:Rows.KernPartsCardSaid:=
 Claim7.holds_tied_plain_at .later [] _ _ _ _ said (fun _ h=> by cases h) (by kernel_rfl) (fun _ h=> by cases h) kernParts_row_tie rfl ⟨rfl,rfl⟩ (by kernel_rfl) rfl plain (by kernel_rfl)
#print axioms card
end Go.Proofs.YtalapfkfdhpomaaGreatDoor.lawKernParts
