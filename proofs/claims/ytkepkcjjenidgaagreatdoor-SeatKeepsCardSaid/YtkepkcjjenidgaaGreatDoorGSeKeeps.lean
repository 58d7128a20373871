/- An act that comes in. No condition. The law SeatKeeps: it answers true. Conditions: rows that there can be; the table of the instructions' parts lies there. The card of SeatKeeps: whatever happens to a seat, what was answered stays told, and the console stays; for every partition, few images, every script of 30 acts and 60 cycles each at most. -/
import Derived.Test.YtkepkcjjenidgaaGreatDoorGCard
import Derived.Test.YtkepkcjjenidgaaGreatDoorGSe2
import Derived.Test.YtkepkcjjenidgaaGreatDoorKApp
import Derived.Test.YtkepkcjjenidgaaGreatDoorKSameEv
import Derived.Test.YtkepkcjjenidgaaGreatDoorSePlG
set_option linter.unusedVariables false
set_option maxRecDepth 100000
set_option maxHeartbeats 8000000
set_option linter.unusedSimpArgs false
namespace Go.Proofs.YtkepkcjjenidgaaGreatDoor
open Go.ChangeShapes Go.WideShapes Go.ChangeAt Go.RowKit Go.Joins Go.Deep KR
namespace Kn
section
variable {H:Type} {enc:TypeId × Value→H} {w:World} {base b:Nat} {sp:Nat→Bool} {hd:Bool} {r:Reach}
theorem open_sdeed {v:Value} {d:DataW H} {p:List MemPlace} (hv:Value.okWide Tryz.prog w r base 69 v) (h:DataW.Trod enc Tryz.prog w b sp hd 69 v d p):
 ∃ a:SDeed,v=.agg a.cells∧a.body.size ∈ d.weights Tryz.prog 69:=by
 obtain ⟨cs,rfl,hsz⟩:=okWide_struct Tryz.underlying69 hv
 rw [cells_sd] at hsz
 obtain ⟨fuel,hf⟩:=h
 obtain ⟨l⟩:=cs
 match l,hsz with
 |[c0,c1,c2],_=>
  obtain ⟨xs,n,_,hx2,_,hl,hgg⟩:=DataW.trod_struct Tryz.underlying69 hf
  have hx:xs.length=3:=hl
  have g0':DataW.trod enc Tryz.prog w b sp hd n 3 (([c0,c1,c2].drop 0).take (Tryz.prog.cellsOf 3))=xs[0]? :=hgg 0 _ rfl
  rw [List.getElem?_eq_getElem (by omega),cells_int] at g0'
  have g0:DataW.trod enc Tryz.prog w b sp hd n 3 [c0]=some (xs[0]'(by omega)):=g0'
  have g1':DataW.trod enc Tryz.prog w b sp hd n 3 (([c0,c1,c2].drop 1).take (Tryz.prog.cellsOf 3))=xs[1]? :=hgg 1 _ rfl
  rw [List.getElem?_eq_getElem (by omega),cells_int] at g1'
  have g1:DataW.trod enc Tryz.prog w b sp hd n 3 [c1]=some (xs[1]'(by omega)):=g1'
  have g2':DataW.trod enc Tryz.prog w b sp hd n 9 (([c0,c1,c2].drop 2).take (Tryz.prog.cellsOf 9))=xs[2]? :=hgg 2 _ rfl
  rw [List.getElem?_eq_getElem (by omega),cells_str] at g2'
  have g2:DataW.trod enc Tryz.prog w b sp hd n 9 [c2]=some (xs[2]'(by omega)):=g2'
  obtain ⟨r0,rfl,_⟩:=open_int' g0
  obtain ⟨r1,rfl,_⟩:=open_int' g1
  obtain ⟨r2,rfl,hs⟩:=open_str' g2
  obtain rfl:=(Prod.mk.inj hx2).1
  refine ⟨⟨r0,r1,r2⟩,rfl,?_⟩
  unfold DataW.weights
  rw [Tryz.underlying69]
  dsimp only
  refine DataW.weights_mem_each (j:=2) (t:=9) (d:=.lit (.string r2.data.toList)) (by rfl) ?_ r2.size ?_
  · rw [List.getElem?_map,List.getElem?_eq_getElem (by omega),hs]
    rfl
  · simp only [DataW.weights,List.mem_singleton]
    exact Array.length_toList.symm
theorem open_slen {v:Value} {d:DataW H} {p:List MemPlace} {l:List SDeed} (hr:Rd 3 SDeed.cells w v l) (h:DataW.Trod enc Tryz.prog w b sp hd 67 v d p):l=[]∨∃ m,l.length≤m∧m * 32 ∈ d.weights Tryz.prog 67:=by
 obtain ⟨a1,c1,rfl,_,_⟩:=hr.shape
 obtain ⟨fuel,h⟩:=h
 have h':DataW.trod enc Tryz.prog w b sp hd fuel 67 [.slice a1 l.length c1]=some (d,p):=h
 rcases open_slice Tryz.underlying67 h' with ⟨he,_⟩|⟨a',len',cap',m,n,D,P',he,_,hl,hm,hmm,hx,hi⟩
 · injection he with he _
   injection he with _ he _
   exact .inl (List.eq_nil_of_length_eq_zero he)
 · injection he with he _
   injection he with _ he _
   obtain rfl:=(Prod.mk.inj hx).1
   refine .inr ⟨((List.range len').map D).length + ((List.range (m - len')).map fun j=> D (len' + j)).length,by simp;omega,?_⟩
   have hb:Tryz.prog.bytesOf 69=32:=by kernel_rfl
   unfold DataW.weights
   rw [Tryz.underlying67]
   dsimp only
   rw [hb]
   exact List.mem_cons_self ..
theorem slen_small {T:TypeId} {ts:List TypeId} {ds:List (DataW H)} {j:Nat} {d:DataW H} {l:List SDeed} (hr:(DataW.weightsEach Tryz.prog ts ds).all (· ≤reachBytes)=true) (ht:ts[j]? =some T) (hd:ds[j]? =some d)
 (h:l=[]∨∃ m,l.length≤m∧m * 32 ∈ d.weights Tryz.prog T):l.length * 32≤140737488351232:=by
 rcases h with rfl|⟨m,hm,hw⟩
 · decide
 · have h1:=List.all_eq_true.1 hr _ (DataW.weights_mem_each ht hd _ hw)
   have h2:m * 32≤reachBytes:=by simpa using h1
   unfold reachBytes at h2
   omega
end
end Kn
end Go.Proofs.YtkepkcjjenidgaaGreatDoor
namespace Go.Proofs.YtkepkcjjenidgaaGreatDoor
open Go.RowKit KR RegT3
namespace Kn
theorem aggSAct:Agg Tryz.prog 69 3:=agg_of Tryz.underlying69 rfl (by kernel_rfl)
theorem zeroSAct:∀ W,(zeroValue 69).run Tryz.prog W=.ok (.agg #[.int .i64 0,.int .i64 0,.string ⟨#[]⟩]) W:=zero_of (by kernel_rfl)
theorem szSAct:∀ x:SDeed,(SDeed.cells x).size=3:=fun _=> rfl
theorem onesSAct (x:SDeed):∀ u ∈ (SDeed.cells x).toList,u.oneCell'=true:=by
 intro u hu
 simp [SDeed.cells] at hu
 rcases hu with rfl|rfl|rfl <;> rfl
theorem one_rdS {W:World} {n:Nat} {a:SDeed} (h:W.heap[n]? =some (.cells (SDeed.cells a) 69 (0,0))):Rd 3 SDeed.cells W (.slice (some ⟨n,0,none⟩) 1 1) [a]:=
 ⟨_,1,rfl,Nat.le_refl _,(show 1≤9223372036854775807 by decide),.inr ⟨n,0,rfl,hlt h,fun i x hx j u hj=> by
   match i,hx with
   |0,hx=>
    obtain rfl:=Option.some.inj hx
    rw [hcell h]
    simpa using hj⟩⟩
theorem dO {B:Nat} {W W':World} {v:Value} {l:List SDeed} (hb:Below W.heap.size W W') (h:Hid (KR.Own 69 3 SDeed.cells B W v l)):Hid (KR.Own 69 3 SDeed.cells B W' v l):=hU (ownsRow_below h.out hb)
theorem cut_leftK (a b:ByteArray):(a ++ b).extract 0 a.size=a:=by
 apply ByteArray.ext
 rw [ByteArray.data_extract,ByteArray.data_append]
 show (a.data ++ b.data).extract 0 a.data.size=a.data
 rw [Array.extract_append_left,Array.extract_size]
theorem join8 {A1 A2 A3 A4 A5 A6 A7 A8:Type} {G:Prop} {T F:A1→A2→A3→A4→A5→A6→A7→A8→Prop} (h1:∀ a b c d e f g h,F a b c d e f g h→T a b c d e f g h) (h2:(∀ a b c d e f g h,F a b c d e f g h→T a b c d e f g h)→G):G:=h2 h1
theorem LSeatKeeps (g:SGuest) (iv ov nv lv:Value) (l:List SDeed) (a:SDeed) (w:World) (hi:Rd 1 strCells w iv g.images) (ho:Rd 5 Chan.cells w ov g.outs) (hn:Rd 5 Chan.cells w nv g.ins_) (hl:Rd 3 SDeed.cells w lv l) (hx:PartOk g.x) (hs:SmallSDeeds l) (hsa:a.body.size≤140737488355328) (hlen:l.length * 32≤140737488351232) (hT:Tab w):
 Calls Tryz.prog 4 #[.agg (sgcells g iv ov nv),lv,.agg (SDeed.cells a)] w (Gives (.bool true) w):=by
 obtain ⟨la,lc,rfl,hlc,hlm⟩:=hl.shape
 have HT:=hU (fun W (h:Below w.heap.size w W)=> hT.below h)
 have HI:=hU (fun W (h:Below w.heap.size w W)=> hi.below h)
 have HO:=hU (fun W (h:Below w.heap.size w W)=> ho.below h)
 have HN:=hU (fun W (h:Below w.heap.size w W)=> hn.below h)
 have HD:=hU (fun W (h:Below w.heap.size w W)=> hl.below h)
 clear hi ho hn hl hT
 obtain ⟨Wn,hW0,hb0,HQ⟩:=nb1 (W:=w) (.cells (sgcells g iv ov nv) 66) rfl
 have HB:=hU hb0
 clear hb0
 obtain ⟨bHA,hab,habHA⟩:=nbz HB
 have hxHQHA:=nlt HQ hab
 obtain ⟨Wn,hWn,hba,HA⟩:=nb1 (W:=Wn) (.cells (SDeed.cells a) 69) hab
 replace HQ:=nB hba HQ
 replace HB:=nW hba HB
 clear hba
 go_enter Tryz.func4,Tryz.ntmps4
 repeat' (first
  |(rw [hW0];clear hW0)
  |(rw [hWn,hab];clear hWn hab)
  |go_values|go_skip|go_guarded|(with_reducible refine wg ?_)|go_step|go_upon)
 refine (LShownS _ (HT.out _ HB.out)).mono ?_
 rintro er Wn ⟨rfl,hb⟩
 replace HQ:=nB hb HQ
 replace HA:=nB hb HA
 replace HB:=nW hb HB
 clear hb
 dsimp only
 repeat' (first
  |(refine wpList_load (t:=66) (v:=.agg (sgcells g iv ov nv)) rfl rfl rfl (run_load_whole aggSGuest HQ.out rfl) ?_)
  |go_values|go_skip|go_guarded|(with_reducible refine wg ?_)|go_step|go_upon)
 refine (LFewS g iv ov nv _ (HI.out _ HB.out) (HO.out _ HB.out) (HN.out _ HB.out)).mono ?_
 rintro er Wn ⟨rfl,hb⟩
 replace HQ:=nB hb HQ
 replace HA:=nB hb HA
 replace HB:=nW hb HB
 clear hb
 dsimp only
 cases hfew:fewS g
 · repeat' (first|go_values|go_skip|go_guarded|(with_reducible refine wg ?_)|go_step|go_upon)
   go_ret
   exact gives_of rfl HB.out
 have HG:=hU (few_okS hfew hx)
 have hgr:=fun h=> splays_more HG.out hs a h
 clear hfew
 repeat' (first
  |(refine wpList_load (t:=66) (v:=.agg (sgcells g iv ov nv)) rfl rfl rfl (run_load_whole aggSGuest HQ.out rfl) ?_)
  |go_values|go_skip|go_guarded|(with_reducible refine wg ?_)|go_step|go_upon)
 refine (SSPlays g iv ov nv (.slice la l.length lc) l _ (HI.out _ HB.out) (HO.out _ HB.out) (HN.out _ HB.out) (HD.out _ HB.out) HG.out hs (HT.out _ HB.out)).mono ?_
 rintro er Wn ⟨vS,rfl,⟨yS,bsS,rfl,hl⟩,hb⟩
 replace HQ:=nB hb HQ
 replace HA:=nB hb HA
 replace HB:=nW hb HB
 clear hb
 have HLS:=hU hl
 clear hl
 dsimp only
 obtain ⟨s,hss⟩:∃ s,splays g l=s:=⟨_,rfl⟩
 obtain ⟨s2,hs2⟩:∃ s2,splays g (l ++ [a])=s2:=⟨_,rfl⟩
 rw [hss,hs2] at hgr
 rw [hss] at HLS ⊢
 have HGR:=hU hgr
 have HS2:=hU hs2
 have HSM:Hid (SmallSDeeds (l ++ [a])):=hU (fun x hx=> by
  rcases List.mem_append.1 hx with h|h
  · exact hs x h
  · rw [List.mem_singleton] at h
    rw [h]
    exact hsa)
 have HLE:=hU hlen
 have HLM:=hU hlm
 clear hss hs2 hgr hs hsa hlen
 obtain ⟨bHS,hab,habHS⟩:=nbz HB
 have hxHQHS:=nlt HQ hab
 have hxHAHS:=nlt HA hab
 obtain ⟨Wn,hWn,hba,HS⟩:=nb1 (W:=Wn) (.cells #[.slice none 0 0,.slice none 0 0,.int .i64 0,.slice none 0 0,.slice none 0 0,.int .i64 0,.slice none 0 0,.int .u64 0,.slice none 0 0,.slice none 0 0,.slice none 0 0,.slice none 0 0,.string ⟨#[]⟩,.slice none 0 0,.slice none 0 0,.int .i64 0,.int .i64 0,.int .i64 0,.int .i64 0] 58) hab
 replace HQ:=nB hba HQ
 replace HA:=nB hba HA
 replace HLS:=nL hba HLS
 replace HB:=nW hba HB
 clear hba
 have HO:=hU (onesS HLS.out)
 repeat' (first
  |(rw [hWn,hab];clear hWn hab)
  |(refine wpList_store (t:=58) (v:=.agg (scells yS s)) (off:=0) (new:=scells yS s) rfl rfl rfl rfl aggSeat.size HS.out rfl (show 0 + 19≤19 by decide) HO.out rfl ?_;intro Wn hp
    replace HB:=pW hp HB
    replace HQ:=pT hp HS HQ
    replace HA:=pT hp HS HA
    replace HLS:=pL hp HS HLS noSeat
    replace HS:=pA hp
    clear hp)
  |go_values|go_skip|go_guarded|(with_reducible refine wg ?_)|go_step|go_upon)
 clear HO
 refine wp_region_noPanic ?_
 refine go0 (S:=fun W=> W.heap[w.heap.size]? =some (.cells (sgcells g iv ov nv) 66 (0,0))∧W.heap[bHA]? =some (.cells (SDeed.cells a) 69 (0,0))) [] (⟨HQ.out,HA.out⟩) fun hS=> ?_
 obtain ⟨Wr,hWd⟩:=exW Wn.drew
 replace HQ:=dB hWd HQ
 replace HA:=dB hWd HA
 replace HS:=dB hWd HS
 replace HLS:=dL hWd HLS
 replace HB:=dW hWd HB
 rw [hWd] at hS ⊢
 clear hWd
 refine tv 0 (.agg (sgcells g iv ov nv)) (fun W hSW=> run_val_load rfl rfl (run_load_whole aggSGuest hSW.1 rfl)) ?_;(try simp only [acts])
 refine tp 2 ?_;(try simp only [acts])
 refine tv 4 (.agg (SDeed.cells a)) (fun W hSW=> run_val_load rfl rfl (run_load_whole aggSAct hSW.2 rfl)) ?_;(try simp only [acts])
 have HRB:Hid (Below Wr.heap.size Wr Wr):=hU (Below.refl _ _)
 apply join8 (F:=fun (Wn:World) (bN g1 g5:Nat) (yN:Lay) (bsN:List BoxV) (v3 v6:Value)=> Hid (Below Wr.heap.size Wr Wn)∧Hid (Wn.heap[bN]? =some (.cells (scells yN s2) 58 (0,0)))∧Hid (LayAt Wn yN bsN s2.k)∧Wr.heap.size≤bN)
 case h2=>
  intro hj
  refine threeL (i:=1) (j:=5) (l:=8) (by decide +kernel) rfl rfl rfl (fun K hK=> ?_) (fun K hK=> ?_) (fun K hK=> ?_)
  all_goals
   first
   |(refine want rfl ?_
     refine isD (some 26) rfl ?_
     try clear hS
     refine wp_buildSlice_no (S:=67) rfl Tryz.underlying67 aggSAct.size ?_
     obtain ⟨g1,hab,hg1⟩:=nbz HRB
     obtain ⟨Wn,hWn,hba,H1⟩:=nb1 (.cells #[] 69) hab
     rw [hab,hWn]
     try replace H5:=nB hba H5
     try replace HN2:=nB hba HN2
     replace HRB:=nW hba HRB
     clear hWn hba hab
     refine nx hK (⟨(nB HRB.out HQ).out,(nB HRB.out HA).out⟩) fun hS=> ?_
     clear hK K
     (try simp only [acts]))
   |(refine want rfl ?_
     refine isD (some 30) rfl ?_
     try clear hS
     refine wp_buildSlice_one (v:=.agg (SDeed.cells a)) _ rfl rfl Tryz.underlying67 aggSAct.size zeroSAct rfl (by decide) (by decide) rfl ?_
     try simp only [Value.cells]
     obtain ⟨g5,hab,hg5⟩:=nbz HRB
     obtain ⟨Wn,hWn,hba,H5⟩:=nb1 (.cells (SDeed.cells a) 69) hab
     rw [hab,hWn]
     try replace H1:=nB hba H1
     try replace HN2:=nB hba HN2
     replace HRB:=nW hba HRB
     try replace HO3:=dO hba HO3
     clear hWn hba hab
     refine nx hK (⟨(nB HRB.out HQ).out,(nB HRB.out HA).out⟩) fun hS=> ?_
     clear hK K
     (try simp only [acts]))
   |(refine want rfl ?_
     refine isD (some 10) rfl ?_
     go_simp
     try clear hS
     obtain ⟨bHN2,hab,habN⟩:=nbz HRB
     obtain ⟨Wn,hWn,hba,HN2⟩:=nb1 (.cells #[.slice none 0 0,.slice none 0 0,.int .i64 0,.slice none 0 0,.slice none 0 0,.int .i64 0,.slice none 0 0,.int .u64 0,.slice none 0 0,.slice none 0 0,.slice none 0 0,.slice none 0 0,.string ⟨#[]⟩,.slice none 0 0,.slice none 0 0,.int .i64 0,.int .i64 0,.int .i64 0,.int .i64 0] 58) hab
     rw [hWn,hab]
     try replace H1:=nB hba H1
     try replace H5:=nB hba H5
     replace HRB:=nW hba HRB
     try replace HO3:=dO hba HO3
     try replace HO6:=dO hba HO6
     try replace HLN:=nL hba HLN
     clear hWn hba hab
     refine nx hK (⟨(nB HRB.out HQ).out,(nB HRB.out HA).out⟩) fun hS=> ?_
     clear hK K
     (try simp only [acts]))
  all_goals (first|refine threeL (i:=3) (j:=5) (l:=8) (by decide +kernel) rfl rfl rfl (fun K hK=> ?_) (fun K hK=> ?_) (fun K hK=> ?_)|refine twoL (i:=1) (j:=8) (by decide +kernel) rfl rfl (fun K hK=> ?_) (fun K hK=> ?_)|refine twoL (i:=1) (j:=5) (by decide +kernel) rfl rfl (fun K hK=> ?_) (fun K hK=> ?_))
  all_goals
   first
   |(refine want rfl ?_
     refine isD (some 26) rfl ?_
     try clear hS
     refine wp_buildSlice_no (S:=67) rfl Tryz.underlying67 aggSAct.size ?_
     obtain ⟨g1,hab,hg1⟩:=nbz HRB
     obtain ⟨Wn,hWn,hba,H1⟩:=nb1 (.cells #[] 69) hab
     rw [hab,hWn]
     try replace H5:=nB hba H5
     try replace HN2:=nB hba HN2
     replace HRB:=nW hba HRB
     clear hWn hba hab
     refine nx hK (⟨(nB HRB.out HQ).out,(nB HRB.out HA).out⟩) fun hS=> ?_
     clear hK K
     (try simp only [acts]))
   |(refine want rfl ?_
     refine isD (some 28) rfl ?_
     try clear hS
     have hbw:=HB.out.trans (HRB.out.mono HB.out.size)
     obtain ⟨v3,Wn,hrun,hv3,hb⟩:=apFull (P:=Tryz.prog) (t:=67) (ty:=67) (bytes:=32) szSAct (by decide) Tryz.underlying67 (by kernel_rfl) H1.out (HD.out _ hbw) hg1 (by have:=HLE.out;unfold maxLen;omega) (by have:=HLE.out;omega)
     refine wp_append_run _ _ _ _ rfl _ _ rfl rfl _ _ hrun ?_
     have HO3:=hU hv3
     clear H1
     try replace H5:=nB hb H5
     try replace HN2:=nB hb HN2
     replace HRB:=nW hb HRB
     clear hrun hv3 hb hbw
     refine nx hK (⟨(nB HRB.out HQ).out,(nB HRB.out HA).out⟩) fun hS=> ?_
     clear hK K
     (try simp only [acts]))
   |(refine want rfl ?_
     refine isD (some 30) rfl ?_
     try clear hS
     refine wp_buildSlice_one (v:=.agg (SDeed.cells a)) _ rfl rfl Tryz.underlying67 aggSAct.size zeroSAct rfl (by decide) (by decide) rfl ?_
     try simp only [Value.cells]
     obtain ⟨g5,hab,hg5⟩:=nbz HRB
     obtain ⟨Wn,hWn,hba,H5⟩:=nb1 (.cells (SDeed.cells a) 69) hab
     rw [hab,hWn]
     try replace H1:=nB hba H1
     try replace HN2:=nB hba HN2
     replace HRB:=nW hba HRB
     try replace HO3:=dO hba HO3
     clear hWn hba hab
     refine nx hK (⟨(nB HRB.out HQ).out,(nB HRB.out HA).out⟩) fun hS=> ?_
     clear hK K
     (try simp only [acts]))
   |(refine want rfl ?_
     refine isD (some 10) rfl ?_
     go_simp
     try clear hS
     obtain ⟨bHN2,hab,habN⟩:=nbz HRB
     obtain ⟨Wn,hWn,hba,HN2⟩:=nb1 (.cells #[.slice none 0 0,.slice none 0 0,.int .i64 0,.slice none 0 0,.slice none 0 0,.int .i64 0,.slice none 0 0,.int .u64 0,.slice none 0 0,.slice none 0 0,.slice none 0 0,.slice none 0 0,.string ⟨#[]⟩,.slice none 0 0,.slice none 0 0,.int .i64 0,.int .i64 0,.int .i64 0,.int .i64 0] 58) hab
     rw [hWn,hab]
     try replace H1:=nB hba H1
     try replace H5:=nB hba H5
     replace HRB:=nW hba HRB
     try replace HO3:=dO hba HO3
     try replace HO6:=dO hba HO6
     try replace HLN:=nL hba HLN
     clear hWn hba hab
     refine nx hK (⟨(nB HRB.out HQ).out,(nB HRB.out HA).out⟩) fun hS=> ?_
     clear hK K
     (try simp only [acts]))
  all_goals (first|refine twoL (i:=5) (j:=8) (by decide +kernel) rfl rfl (fun K hK=> ?_) (fun K hK=> ?_)|refine twoL (i:=3) (j:=8) (by decide +kernel) rfl rfl (fun K hK=> ?_) (fun K hK=> ?_)|refine twoL (i:=3) (j:=5) (by decide +kernel) rfl rfl (fun K hK=> ?_) (fun K hK=> ?_)|refine ro 1 (hr:=by decide +kernel) fun K hK=> ?_)
  all_goals
   first
   |(refine want rfl ?_
     refine isD (some 26) rfl ?_
     try clear hS
     refine wp_buildSlice_no (S:=67) rfl Tryz.underlying67 aggSAct.size ?_
     obtain ⟨g1,hab,hg1⟩:=nbz HRB
     obtain ⟨Wn,hWn,hba,H1⟩:=nb1 (.cells #[] 69) hab
     rw [hab,hWn]
     try replace H5:=nB hba H5
     try replace HN2:=nB hba HN2
     replace HRB:=nW hba HRB
     clear hWn hba hab
     refine nx hK (⟨(nB HRB.out HQ).out,(nB HRB.out HA).out⟩) fun hS=> ?_
     clear hK K
     (try simp only [acts]))
   |(refine want rfl ?_
     refine isD (some 28) rfl ?_
     try clear hS
     have hbw:=HB.out.trans (HRB.out.mono HB.out.size)
     obtain ⟨v3,Wn,hrun,hv3,hb⟩:=apFull (P:=Tryz.prog) (t:=67) (ty:=67) (bytes:=32) szSAct (by decide) Tryz.underlying67 (by kernel_rfl) H1.out (HD.out _ hbw) hg1 (by have:=HLE.out;unfold maxLen;omega) (by have:=HLE.out;omega)
     refine wp_append_run _ _ _ _ rfl _ _ rfl rfl _ _ hrun ?_
     have HO3:=hU hv3
     clear H1
     try replace H5:=nB hb H5
     try replace HN2:=nB hb HN2
     replace HRB:=nW hb HRB
     clear hrun hv3 hb hbw
     refine nx hK (⟨(nB HRB.out HQ).out,(nB HRB.out HA).out⟩) fun hS=> ?_
     clear hK K
     (try simp only [acts]))
   |(refine want rfl ?_
     refine isD (some 30) rfl ?_
     try clear hS
     refine wp_buildSlice_one (v:=.agg (SDeed.cells a)) _ rfl rfl Tryz.underlying67 aggSAct.size zeroSAct rfl (by decide) (by decide) rfl ?_
     try simp only [Value.cells]
     obtain ⟨g5,hab,hg5⟩:=nbz HRB
     obtain ⟨Wn,hWn,hba,H5⟩:=nb1 (.cells (SDeed.cells a) 69) hab
     rw [hab,hWn]
     try replace H1:=nB hba H1
     try replace HN2:=nB hba HN2
     replace HRB:=nW hba HRB
     try replace HO3:=dO hba HO3
     clear hWn hba hab
     refine nx hK (⟨(nB HRB.out HQ).out,(nB HRB.out HA).out⟩) fun hS=> ?_
     clear hK K
     (try simp only [acts]))
   |(refine want rfl ?_
     refine isD (some 10) rfl ?_
     go_simp
     try clear hS
     obtain ⟨bHN2,hab,habN⟩:=nbz HRB
     obtain ⟨Wn,hWn,hba,HN2⟩:=nb1 (.cells #[.slice none 0 0,.slice none 0 0,.int .i64 0,.slice none 0 0,.slice none 0 0,.int .i64 0,.slice none 0 0,.int .u64 0,.slice none 0 0,.slice none 0 0,.slice none 0 0,.slice none 0 0,.string ⟨#[]⟩,.slice none 0 0,.slice none 0 0,.int .i64 0,.int .i64 0,.int .i64 0,.int .i64 0] 58) hab
     rw [hWn,hab]
     try replace H1:=nB hba H1
     try replace H5:=nB hba H5
     replace HRB:=nW hba HRB
     try replace HO3:=dO hba HO3
     try replace HO6:=dO hba HO6
     try replace HLN:=nL hba HLN
     clear hWn hba hab
     refine nx hK (⟨(nB HRB.out HQ).out,(nB HRB.out HA).out⟩) fun hS=> ?_
     clear hK K
     (try simp only [acts]))
  all_goals (first|refine twoL (i:=6) (j:=8) (by decide +kernel) rfl rfl (fun K hK=> ?_) (fun K hK=> ?_)|refine ro 5 (hr:=by decide +kernel) fun K hK=> ?_|refine ro 3 (hr:=by decide +kernel) fun K hK=> ?_)
  all_goals
   first
   |(refine want rfl ?_
     refine isD (some 28) rfl ?_
     try clear hS
     have hbw:=HB.out.trans (HRB.out.mono HB.out.size)
     obtain ⟨v3,Wn,hrun,hv3,hb⟩:=apFull (P:=Tryz.prog) (t:=67) (ty:=67) (bytes:=32) szSAct (by decide) Tryz.underlying67 (by kernel_rfl) H1.out (HD.out _ hbw) hg1 (by have:=HLE.out;unfold maxLen;omega) (by have:=HLE.out;omega)
     refine wp_append_run _ _ _ _ rfl _ _ rfl rfl _ _ hrun ?_
     have HO3:=hU hv3
     clear H1
     try replace H5:=nB hb H5
     try replace HN2:=nB hb HN2
     replace HRB:=nW hb HRB
     clear hrun hv3 hb hbw
     refine nx hK (⟨(nB HRB.out HQ).out,(nB HRB.out HA).out⟩) fun hS=> ?_
     clear hK K
     (try simp only [acts]))
   |(refine want rfl ?_
     refine isD (some 30) rfl ?_
     try clear hS
     refine wp_buildSlice_one (v:=.agg (SDeed.cells a)) _ rfl rfl Tryz.underlying67 aggSAct.size zeroSAct rfl (by decide) (by decide) rfl ?_
     try simp only [Value.cells]
     obtain ⟨g5,hab,hg5⟩:=nbz HRB
     obtain ⟨Wn,hWn,hba,H5⟩:=nb1 (.cells (SDeed.cells a) 69) hab
     rw [hab,hWn]
     try replace H1:=nB hba H1
     try replace HN2:=nB hba HN2
     replace HRB:=nW hba HRB
     try replace HO3:=dO hba HO3
     clear hWn hba hab
     refine nx hK (⟨(nB HRB.out HQ).out,(nB HRB.out HA).out⟩) fun hS=> ?_
     clear hK K
     (try simp only [acts]))
   |(refine want rfl ?_
     refine isD (some 31) rfl ?_
     try clear hS
     obtain ⟨v6,Wn,hrun,hv6,hg⟩:=apRow (P:=Tryz.prog) (t:=67) (ty:=67) (bytes:=32) szSAct (by decide) Tryz.underlying67 (by kernel_rfl) onesSAct HO3.out (one_rdS H5.out) HRB.out.size (by have:=HLE.out;rw [List.length_singleton];unfold maxLen;omega) (by have:=HLE.out;rw [List.length_singleton];omega)
     obtain ⟨htn,hbl⟩:=tn_of HO3.out HRB.out.size hg
     refine wp_append_run _ _ _ _ rfl _ _ rfl rfl _ _ hrun ?_
     have HO6:=hU hv6
     replace HRB:Hid (Below Wr.heap.size Wr Wn):=hU (HRB.out.trans hbl)
     try replace HN2:=tnB htn HN2
     clear hrun hv6 hg htn hbl H5 HO3
     refine nx hK (⟨(nB HRB.out HQ).out,(nB HRB.out HA).out⟩) fun hS=> ?_
     clear hK K
     (try simp only [acts]))
   |(refine want rfl ?_
     refine isD (some 10) rfl ?_
     go_simp
     try clear hS
     obtain ⟨bHN2,hab,habN⟩:=nbz HRB
     obtain ⟨Wn,hWn,hba,HN2⟩:=nb1 (.cells #[.slice none 0 0,.slice none 0 0,.int .i64 0,.slice none 0 0,.slice none 0 0,.int .i64 0,.slice none 0 0,.int .u64 0,.slice none 0 0,.slice none 0 0,.slice none 0 0,.slice none 0 0,.string ⟨#[]⟩,.slice none 0 0,.slice none 0 0,.int .i64 0,.int .i64 0,.int .i64 0,.int .i64 0] 58) hab
     rw [hWn,hab]
     try replace H1:=nB hba H1
     try replace H5:=nB hba H5
     replace HRB:=nW hba HRB
     try replace HO3:=dO hba HO3
     try replace HO6:=dO hba HO6
     try replace HLN:=nL hba HLN
     clear hWn hba hab
     refine nx hK (⟨(nB HRB.out HQ).out,(nB HRB.out HA).out⟩) fun hS=> ?_
     clear hK K
     (try simp only [acts]))
  all_goals (first|refine twoL (i:=7) (j:=8) (by decide +kernel) rfl rfl (fun K hK=> ?_) (fun K hK=> ?_)|refine ro 6 (hr:=by decide +kernel) fun K hK=> ?_)
  all_goals
   first
   |(refine want rfl ?_
     refine isD (some 31) rfl ?_
     try clear hS
     obtain ⟨v6,Wn,hrun,hv6,hg⟩:=apRow (P:=Tryz.prog) (t:=67) (ty:=67) (bytes:=32) szSAct (by decide) Tryz.underlying67 (by kernel_rfl) onesSAct HO3.out (one_rdS H5.out) HRB.out.size (by have:=HLE.out;rw [List.length_singleton];unfold maxLen;omega) (by have:=HLE.out;rw [List.length_singleton];omega)
     obtain ⟨htn,hbl⟩:=tn_of HO3.out HRB.out.size hg
     refine wp_append_run _ _ _ _ rfl _ _ rfl rfl _ _ hrun ?_
     have HO6:=hU hv6
     replace HRB:Hid (Below Wr.heap.size Wr Wn):=hU (HRB.out.trans hbl)
     try replace HN2:=tnB htn HN2
     clear hrun hv6 hg htn hbl H5 HO3
     refine nx hK (⟨(nB HRB.out HQ).out,(nB HRB.out HA).out⟩) fun hS=> ?_
     clear hK K
     (try simp only [acts]))
   |(refine want rfl ?_
     refine isD (some 32) rfl ?_
     go_simp
     try clear hS
     have hbw:=HB.out.trans (HRB.out.mono HB.out.size)
     refine (SSPlays g iv ov nv v6 (l ++ [a]) _ (HI.out _ hbw) (HO.out _ hbw) (HN.out _ hbw) (HO6.out.sl szSAct).rd HG.out HSM.out (HT.out _ hbw)).mono ?_
     rintro er Wn ⟨v7,rfl,⟨yN,bsN,rfl,hl⟩,hb⟩
     rw [HS2.out] at hl ⊢
     have HLN:=hU hl
     clear HO6
     try replace HN2:=nB hb HN2
     replace HRB:=nW hb HRB
     clear hl hb hbw
     dsimp only
     refine nx hK (⟨(nB HRB.out HQ).out,(nB HRB.out HA).out⟩) fun hS=> ?_
     clear hK K
     (try simp only [acts]))
   |(refine want rfl ?_
     refine isD (some 10) rfl ?_
     go_simp
     try clear hS
     obtain ⟨bHN2,hab,habN⟩:=nbz HRB
     obtain ⟨Wn,hWn,hba,HN2⟩:=nb1 (.cells #[.slice none 0 0,.slice none 0 0,.int .i64 0,.slice none 0 0,.slice none 0 0,.int .i64 0,.slice none 0 0,.int .u64 0,.slice none 0 0,.slice none 0 0,.slice none 0 0,.slice none 0 0,.string ⟨#[]⟩,.slice none 0 0,.slice none 0 0,.int .i64 0,.int .i64 0,.int .i64 0,.int .i64 0] 58) hab
     rw [hWn,hab]
     try replace H1:=nB hba H1
     try replace H5:=nB hba H5
     replace HRB:=nW hba HRB
     try replace HO3:=dO hba HO3
     try replace HO6:=dO hba HO6
     try replace HLN:=nL hba HLN
     clear hWn hba hab
     refine nx hK (⟨(nB HRB.out HQ).out,(nB HRB.out HA).out⟩) fun hS=> ?_
     clear hK K
     (try simp only [acts]))
  all_goals (first|refine ro 8 (hr:=by decide +kernel) fun K hK=> ?_|refine ro 7 (hr:=by decide +kernel) fun K hK=> ?_)
  all_goals
   first
   |(refine want rfl ?_
     refine isD (some 32) rfl ?_
     go_simp
     try clear hS
     have hbw:=HB.out.trans (HRB.out.mono HB.out.size)
     refine (SSPlays g iv ov nv v6 (l ++ [a]) _ (HI.out _ hbw) (HO.out _ hbw) (HN.out _ hbw) (HO6.out.sl szSAct).rd HG.out HSM.out (HT.out _ hbw)).mono ?_
     rintro er Wn ⟨v7,rfl,⟨yN,bsN,rfl,hl⟩,hb⟩
     rw [HS2.out] at hl ⊢
     have HLN:=hU hl
     clear HO6
     try replace HN2:=nB hb HN2
     replace HRB:=nW hb HRB
     clear hl hb hbw
     dsimp only
     refine nx hK (⟨(nB HRB.out HQ).out,(nB HRB.out HA).out⟩) fun hS=> ?_
     clear hK K
     (try simp only [acts]))
   |(refine want rfl ?_
     refine isD (some 10) rfl ?_
     go_simp
     try clear hS
     obtain ⟨bHN2,hab,habN⟩:=nbz HRB
     obtain ⟨Wn,hWn,hba,HN2⟩:=nb1 (.cells #[.slice none 0 0,.slice none 0 0,.int .i64 0,.slice none 0 0,.slice none 0 0,.int .i64 0,.slice none 0 0,.int .u64 0,.slice none 0 0,.slice none 0 0,.slice none 0 0,.slice none 0 0,.string ⟨#[]⟩,.slice none 0 0,.slice none 0 0,.int .i64 0,.int .i64 0,.int .i64 0,.int .i64 0] 58) hab
     rw [hWn,hab]
     try replace H1:=nB hba H1
     try replace H5:=nB hba H5
     replace HRB:=nW hba HRB
     try replace HO3:=dO hba HO3
     try replace HO6:=dO hba HO6
     try replace HLN:=nL hba HLN
     clear hWn hba hab
     refine nx hK (⟨(nB HRB.out HQ).out,(nB HRB.out HA).out⟩) fun hS=> ?_
     clear hK K
     (try simp only [acts]))
  all_goals
   refine ro 9 fun K hK=> ?_
   refine want rfl ?_
   clear hS
   refine wp_store (v:=.agg (scells yN s2)) (off:=0) (new:=scells yN s2) rfl rfl rfl aggSeat.size HN2.out rfl (show 0 + 19≤19 by decide) (onesS HLN.out) rfl ?_
   intro Wn hp
   replace HRB:=pW hp HRB habN
   replace HLN:=pL hp HN2 HLN noSeat
   replace HN2:=pA hp
   clear hp
   refine nx hK (⟨(nB HRB.out HQ).out,(nB HRB.out HA).out⟩) fun hS=> ?_
   clear hK K
   (try simp only [acts])
   refine doneL (by kernel_rfl) (NoPanic.normal ?_) _
   exact hj Wn bHN2 g1 g5 yN bsN v3 v6 ⟨HRB,HN2,HLN,habN⟩
 rintro Wn bHN2 g1 g5 yN bsN v3 v6 ⟨HR2,HN2,HLN,hbN⟩
 clear hS HRB HA HQ
 have hxN:bHS ≠ bHN2:=by have:=hlt HS.out;omega
 replace HS:=nB HR2.out HS
 replace HLS:=nL HR2.out HLS
 replace HB:=nW HR2.out HB
 clear HR2 HI HO HN HD HT HSM HS2 HG
 by_cases h30:30≤l.length
 · have hc1:decide ((30:Int)≤(l.length:Int))=true:=by simp;omega
   have hc2:decide (30≤l.length)=true:=by simp [h30]
   repeat' (first|go_values|go_skip|go_guarded|(with_reducible refine wg ?_)|go_step|go_upon)
   go_ret
   exact gives_of rfl HB.out
 have hc1:decide ((30:Int)≤(l.length:Int))=false:=by simp;omega
 have hc2:decide (30≤l.length)=false:=by simp;omega
 obtain ⟨⟨tq,htq⟩,⟨cq,hcq⟩,hnow,hbo⟩:=HGR.out (by omega)
 clear h30 HGR
 obtain ⟨n,hn⟩:∃ n,s.k.trace.length=n:=⟨_,rfl⟩
 obtain ⟨N,hN⟩:∃ N,s2.k.trace.length=N:=⟨_,rfl⟩
 have hN2:N=n + tq.length:=by rw [← hN,htq,List.length_append,hn]
 obtain ⟨ta,tc,hta,hta1,htc⟩:=HLS.out.tr.shape
 obtain ⟨tb,td,htb,htd1,htd⟩:=HLN.out.tr.shape
 rw [hn] at hta hta1
 rw [hN] at htb htd1
 have HSU:Hid (Sl 121 4 Ev.cells Wn (.slice ta n tc) s.k.trace):=hU (by rw [← hta];exact HLS.out.tr)
 have HSV0:Hid (Sl 121 4 Ev.cells Wn (.slice tb N td) (s.k.trace ++ tq)):=hU (by rw [← htb,← htq];exact HLN.out.tr)
 have HSV:Hid (Sl 121 4 Ev.cells Wn (.slice tb n td) s.k.trace):=hU (by
  have h:=HSV0.out.take n (by omega)
  rwa [← hn,List.take_left,hn] at h)
 have HSE:=hU (SameEv _ _ _ Wn.drew (HSU.out.below (Below.refl _ _).drew) (HSV.out.below (Below.refl _ _).drew) (by rw [hn];omega))
 have k12:Wn.cell? ⟨bHS,12,none⟩=some (.string s.k.cons):=hcell HS.out 12
 have k13:Wn.cell? ⟨bHS,13,none⟩=some (.slice ta n tc):=(hcell HS.out 13).trans (congrArg some hta)
 have r12:Wn.cell? ⟨bHN2,12,none⟩=some (.string s2.k.cons):=hcell HN2.out 12
 have r13:Wn.cell? ⟨bHN2,13,none⟩=some (.slice tb N td):=(hcell HN2.out 13).trans (congrArg some htb)
 have c1:decide ((N:Int)<(n:Int))=false:=by simp;omega
 have c1c:decide (N<n)=false:=by simp;omega
 have hcz:s.k.cons.size≤s2.k.cons.size:=by rw [hcq,ByteArray.size_append];omega
 have c2:decide ((s2.k.cons.size:Int)<(s.k.cons.size:Int))=false:=by simp;omega
 have c2c:decide (s2.k.cons.size<s.k.cons.size)=false:=by simp;omega
 have hnd:n≤td:=by omega
 have c3:s2.k.cons.extract 0 s.k.cons.size=s.k.cons:=by rw [hcq];exact cut_leftK _ _
 have e2:decide (s.k.now≤s2.k.now)=true:=by simp [hnow]
 have e3:decide (s.boots≤s2.boots)=true:=by simp [hbo]
 have HCZ:=hU hcz
 have HND:=hU hnd
 have HTA:=hU hta
 have HTB:=hU htb
 have HC3:=hU c3
 have HE2:=hU e2
 have HE3:=hU e3
 clear hta htb HSV0 HSU HSV HLS HLN htq hcq hn hN hnow hbo c3 e2 e3 hN2
 repeat' (first|go_values|go_skip|go_guarded|(with_reducible refine wg ?_)|go_step|go_upon)
 refine wp_region_noPanic ?_
 refine go0 (S:=fun W=> W.cell? ⟨bHS,13,none⟩=some (.slice ta n tc)∧W.cell? ⟨bHN2,13,none⟩=some (.slice tb N td)) [] (⟨k13,r13⟩) fun hS=> ?_
 refine tp 0 ?_;(try simp only [acts])
 refine tp 1 ?_;(try simp only [acts])
 refine tl 2 ?_;(try simp only [acts])
 refine tp 3 ?_;(try simp only [acts])
 refine tp 4 ?_;(try simp only [acts])
 refine tl 5 ?_;(try simp only [acts])
 refine tp 6 ?_;(try simp only [acts])
 refine tp 7 ?_;(try simp only [acts])
 refine tl 8 ?_;(try simp only [acts])
 refine tp 9 ?_;(try simp only [acts])
 refine tp 10 ?_;(try simp only [acts])
 refine ro 11 fun K hK=> ?_
 refine want rfl ?_
 go_simp
 refine HSE.out.mono ?_
 rintro er W9 ⟨rfl,hb9⟩
 have hbe:=(Below.refl Wn.heap.size Wn).drew.trans hb9
 replace HB:=nW hbe HB
 replace HS:=nB hbe HS
 replace HN2:=nB hbe HN2
 clear k12 k13 r12 r13 hb9 hbe HSE hS c1 c1c c2 c2c
 obtain ⟨Wn,rfl⟩:∃ Wn,Wn=W9:=⟨_,rfl⟩
 dsimp only
 have k13:Wn.cell? ⟨bHS,13,none⟩=some (.slice ta n tc):=(hcell HS.out 13).trans (congrArg some HTA.out)
 have r13:Wn.cell? ⟨bHN2,13,none⟩=some (.slice tb N td):=(hcell HN2.out 13).trans (congrArg some HTB.out)
 refine nx hK (⟨k13,r13⟩) fun hS=> ?_
 clear hK K
 (try simp only [acts])
 refine tp 12 ?_;(try simp only [acts])
 refine doneL (by kernel_rfl) (NoPanic.normal ?_) _
 clear hS k13 r13
 have hcz:=HCZ.out
 have c3:=HC3.out
 have e2:=HE2.out
 have e3:=HE3.out
 have k12:Wn.cell? ⟨bHS,12,none⟩=some (.string s.k.cons):=hcell HS.out 12
 have r12:Wn.cell? ⟨bHN2,12,none⟩=some (.string s2.k.cons):=hcell HN2.out 12
 have k7:Wn.cell? ⟨bHS,7,none⟩=some (.int .u64 s.k.now):=hcell HS.out 7
 have r7:Wn.cell? ⟨bHN2,7,none⟩=some (.int .u64 s2.k.now):=hcell HN2.out 7
 have k18:Wn.cell? ⟨bHS,18,none⟩=some (.int .i64 s.boots):=hcell HS.out 18
 have r18:Wn.cell? ⟨bHN2,18,none⟩=some (.int .i64 s2.boots):=hcell HN2.out 18
 repeat' (first|go_values|go_skip|go_guarded|(with_reducible refine wg ?_)|go_step|go_upon)
 refine wp_region_noPanic ?_
 refine go0 (S:=fun W=> W.cell? ⟨bHS,12,none⟩=some (.string s.k.cons)∧W.cell? ⟨bHN2,12,none⟩=some (.string s2.k.cons)∧W.cell? ⟨bHS,7,none⟩=some (.int .u64 s.k.now)∧W.cell? ⟨bHN2,7,none⟩=some (.int .u64 s2.k.now)∧W.cell? ⟨bHS,18,none⟩=some (.int .i64 s.boots)∧W.cell? ⟨bHN2,18,none⟩=some (.int .i64 s2.boots)) [] (⟨k12,r12,k7,r7,k18,r18⟩) fun hS=> ?_
 refine tp 0 ?_;(try simp only [acts])
 refine tp 1 ?_;(try simp only [acts])
 refine tp 2 ?_;(try simp only [acts])
 refine tp 3 ?_;(try simp only [acts])
 refine tl 4 ?_;(try simp only [acts])
 refine tp 5 ?_;(try simp only [acts])
 refine tp 6 ?_;(try simp only [acts])
 refine tl 7 ?_;(try simp only [acts])
 refine tp 8 ?_;(try simp only [acts])
 refine tp 9 ?_;(try simp only [acts])
 refine tp 10 ?_;(try simp only [acts])
 refine tp 11 ?_;(try simp only [acts])
 refine tl 12 ?_;(try simp only [acts])
 refine tp 13 ?_;(try simp only [acts])
 refine tp 14 ?_;(try simp only [acts])
 refine tp 15 ?_;(try simp only [acts])
 refine tp 16 ?_;(try simp only [acts])
 refine tl 17 ?_;(try simp only [acts])
 refine tp 18 ?_;(try simp only [acts])
 refine tl 19 ?_;(try simp only [acts])
 refine tp 20 ?_;(try simp only [acts])
 refine tp 21 ?_;(try simp only [acts])
 refine tp 22 ?_;(try simp only [acts])
 refine tp 23 ?_;(try simp only [acts])
 refine tp 24 ?_;(try simp only [acts])
 refine tl 25 ?_;(try simp only [acts])
 refine tp 26 ?_;(try simp only [acts])
 refine tp 27 ?_;(try simp only [acts])
 refine tl 28 ?_;(try simp only [acts])
 refine tp 29 ?_;(try simp only [acts])
 refine tp 30 ?_;(try simp only [acts])
 refine tp 31 ?_;(try simp only [acts])
 refine doneL (by kernel_rfl) (NoPanic.normal ?_) _
 clear hS
 repeat' (first|go_values|go_skip|go_guarded|(with_reducible refine wg ?_)|go_step|go_upon)
 go_ret
 exact gives_of rfl HB.out.drew
end Kn
end Go.Proofs.YtkepkcjjenidgaaGreatDoor
namespace Go.Proofs.YtkepkcjjenidgaaGreatDoor.lawSeatKeeps
open Go.ChangeShapes Go.WideShapes Go.ChangeAt Go.RowKit
theorem contract (H:Type) (enc:TypeId × Value→H) (W:World) (base:Nat) (args:Array Value) (ds gs:List (DataW H)) (before:List MemPlace)
 (hval:∀ (j:Nat) t v,Tryz.f4.params[j]? =some t→args[j]? =some v→Value.okWide Tryz.prog W .any base t v)
 (hW:DataW.Whole enc Tryz.prog Tryz.f4.params.toList Rows.seatKeepsSpec.vars false W args.toList ds gs before) (hL:laidMetH Tryz.prog Rows.seatKeepsRow.laid W)
 (hr:(DataW.weightsEach Tryz.prog (Tryz.f4.params.toList ++ (OpenSpec.ofChange Rows.seatKeepsSpec).bare.plain.varTypes Tryz.prog) (ds ++ gs)).all (· ≤reachBytes)=true):
 Calls Tryz.prog 4 args W fun e W'=> ∃ v,e=.returned v∧Rows.seatKeepsSpec.post enc Tryz.prog Tryz.f4 false true false false W args v W':=by
 have hW':=hW
 obtain ⟨p,q,hA0,hV,rfl,hfz,hnd⟩:=hW
 have hA:DataW.TrodAll enc Tryz.prog W 0 (fun _=> true) true Tryz.f4.params.toList args.toList ds p:=hA0
 rw [Tryz.params4] at hA hval
 obtain ⟨v0,v1,v2,d0,d1,d2,p0,p1,p2,rfl,rfl,rfl,h0,h1,h2⟩:=trodAll_three hA
 obtain ⟨rfl,rfl⟩:=trodVars_none hV
 obtain ⟨g,iv,ov,nv,rfl,hi,ho,hn,hx⟩:=Kn.open_sguest (hval 0 66 v0 rfl rfl) h0
 obtain ⟨l,hl,hwl⟩:=Kn.open_sscript (hval 1 67 v1 rfl rfl) h1
 have hsl:=Kn.sscript_small (j:=1) hr (by kernel_rfl) rfl hwl
 have hzl:=Kn.slen_small (j:=1) hr (by kernel_rfl) rfl (Kn.open_slen hl h1)
 obtain ⟨a,rfl,hwa⟩:=Kn.open_sdeed (hval 2 69 v2 rfl rfl) h2
 have hsa:=Kn.small_of (j:=2) hr (by kernel_rfl) rfl hwa
 refine (Kn.LSeatKeeps g iv ov nv v1 l a W hi ho hn hl hx hsl hsa hzl (tab_of hL)).mono fun e W' ⟨he,hb⟩=> ?_
 subst he
 exact ⟨_,rfl,law_post (tb:=4) hW' rfl rfl rfl rfl (by kernel_rfl) Tryz.underlying4 laid_outB (by rw [Tryz.params4];decide +kernel) hb⟩
abbrev zeros:Array Value:=#[.agg #[.int .i64 0,.int .i64 0,.int .i64 0,.int .i64 0,.slice none 0 0,.slice none 0 0,.slice none 0 0],.slice none 0 0,.agg #[.int .i64 0,.int .i64 0,.string ByteArray.empty]]
theorem laid_met (os:Os):laidMet Tryz.prog Rows.seatKeepsRow.laid ((laidWorld os).forCall (fun _ _=> 0) ⟨#[],zeros,[]⟩).memory:=
 laidMet_of_run' 8 (by kernel_rfl) (by kernel_rfl)
theorem reads (os:Os) {H:Type} (enc:TypeId × Value→H):∃ places,DataW.whole enc Tryz.prog ((laidWorld os).forCall (fun _ _=> 0) ⟨#[],zeros,[]⟩).memory Tryz.f4.params.toList Rows.seatKeepsSpec.vars false zeros.toList 8=some ([.agg [.agg [.lit (.int .i64 0),.agg [.lit (.int .i64 0),.lit (.int .i64 0),.lit (.int .i64 0)]],.nil,.nil,.nil],.nil,.agg [.lit (.int .i64 0),.lit (.int .i64 0),.lit (.string [])]],[],places):=
 ⟨[],by kernel_rfl⟩
theorem lifted (os:Os) (started:os.Started) (H:Type) (enc:TypeId × Value→H) (F:Stop.Interp):
 ReturnsInHanded {} Tryz.checked os 4 .any ((OpenSpec.ofChange Rows.seatKeepsSpec).preRow enc Tryz.prog Tryz.f4 Rows.seatKeepsRow.domain false Rows.seatKeepsRow.laid) (((OpenSpec.ofChange Rows.seatKeepsSpec).at F).post enc Tryz.prog Tryz.f4 false true false false):=by
 obtain ⟨places,hx⟩:=reads os enc
 refine returnsInHanded_of_row (C:=Tryz.checked) (s:=OpenSpec.ofChange Rows.seatKeepsSpec) own started (by kernel_rfl) Tryz.func4
  (witness_row_at (enc:=enc) (C:=Tryz.checked) false (laidWorld os) zeros rfl (by kernel_rfl) (by kernel_rfl) (by kernel_rfl)
    (OpenSpec.preRow_of_cond 8 hx (by kernel_rfl) (fun k hk=> by cases hk) (by kernel_rfl) (laid_met os))) ?_
 intro W base args ds gs before hval hW _ hcond hr hL _ _
 exact contract H enc W base args ds gs before hval hW hL hr
theorem j0:(Rows.seatKeepsRow.inPlace==Tryz.pinned.checked.prog.inPlace 4)=true:=by kernel_rfl
theorem j1:(Rows.seatKeepsRow.unfollowed==Tryz.pinned.checked.prog.unfollowed 4)=true:=by kernel_rfl
theorem j2:(Rows.seatKeepsRow.recurses==Tryz.pinned.checked.prog.recurses 4)=true:=by kernel_rfl
theorem j3:(Rows.seatKeepsRow.named==Tryz.pinned.checked.prog.varsNamed 4)=true:=by kernel_rfl
theorem facts:joinedFacts Tryz.pinned.checked.prog 4 Tryz.f4 (OpenSpec.ofChange Rows.seatKeepsSpec).bare Rows.seatKeepsRow=true:=by
 unfold joinedFacts
 rw [j0,j1,j2,j3]
 kernel_rfl
theorem said:Rows.SeatKeepsSaid:=
 OpenClaim.holds_of_cond 4 Tryz.f4 rfl rfl rfl rfl rfl rfl rfl ⟨rfl,rfl,rfl,rfl,rfl⟩ rfl rfl rfl rfl rfl (by kernel_rfl) Tryz.func4 facts
  (of_decide_eq_true (by kernel_rfl)) (by unfold Func.isWrapper;first|(rw [if_pos (by decide +kernel)];kernel_rfl)|(rw [if_neg (by decide +kernel)];exact ⟨rfl,rfl⟩))
  (fun os started H enc _ F=> by rw [OpenClaim.pre_eq_preRow];exact lifted os started H enc F)
theorem plain (f:FuncId) (fn:Func) (hf:Tryz.pinned.checked.prog.funcNamed "transom/transomlaw14.SeatKeeps" =some f) (hfn:Tryz.pinned.checked.prog.funcs[f]? =some fn):
 false=Tryz.pinned.checked.prog.looks []∧∀ (j:Nat) t,fn.params[j]? =some t→Tryz.pinned.checked.prog.wantsStandIn t=false:=by
 obtain rfl:f=4:=Option.some.inj ((show Tryz.prog.funcNamed "transom/transomlaw14.SeatKeeps" =some 4 by kernel_rfl).symm.trans hf)|>.symm
 obtain rfl:fn=Tryz.f4:=(Option.some.inj (Tryz.func4.symm.trans hfn)).symm
 refine ⟨looks_off,fun j t ht=> ?_⟩
 have hm:=Array.mem_of_getElem? ht
 rw [Tryz.params4] at hm
 have hall:∀ t ∈ (#[66,67,69]:Array TypeId),Tryz.prog.wantsStandIn t=false:=by decide +kernel
 exact hall t hm
theorem card:Rows.SeatKeepsCardSaid:=
 Claim7.holds_tied_plain_at .later [] _ _ _ _ said (fun _ h=> by cases h) (by kernel_rfl) (fun _ h=> by cases h) seatKeeps_row_tie rfl ⟨rfl,rfl⟩ (by kernel_rfl) rfl plain (by kernel_rfl)
#print axioms card
end Go.Proofs.YtkepkcjjenidgaaGreatDoor.lawSeatKeeps
