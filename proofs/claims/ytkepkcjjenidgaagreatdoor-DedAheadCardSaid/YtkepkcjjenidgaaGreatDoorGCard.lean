/- Rows that come in, as they are read. No condition. What a law's row asks behind its walk: a law that answers true and lays only new memory. No condition. The table isa.uses as the rows list it, and a world that holds it. No condition. What the laws of layer 14 are asked of, as it comes in. No condition. -/
import Derived.Test.YtkepkcjjenidgaaGreatDoorRows
import Derived.Test.YtkepkcjjenidgaaGreatDoorGTop
import Derived.Deep.Slices
import Derived.Lib.SmallJoins
import Derived.SizedLaws
import Derived.Test.YtkepkcjjenidgaaGreatDoorG0
import Derived.Test.YtkepkcjjenidgaaGreatDoorGCp0
import Derived.Test.YtkepkcjjenidgaaGreatDoorCards
import Derived.Test.YtkepkcjjenidgaaGreatDoorTie
import Derived.Deep.DeepHandedRow
import Derived.Lib.LaidTab
import Derived.Test.YtkepkcjjenidgaaGreatDoorGSe0
set_option linter.unusedVariables false
set_option maxRecDepth 100000
set_option maxHeartbeats 8000000
set_option linter.unusedSimpArgs false
namespace Go.Proofs.YtkepkcjjenidgaaGreatDoor
open Go.ChangeShapes Go.WideShapes Go.ChangeAt Go.RowKit Go.Joins Go.Deep KR
namespace Kn
theorem cell_lt {w:World} {a:Addr} {v:Value} (h:w.cell? a=some v):a.block<w.heap.size:=by
 rcases Nat.lt_or_ge a.block w.heap.size with h'|h'
 · exact h'
 · simp [World.cell?,Array.getElem?_eq_none h'] at h
theorem i64_b {x:Int} (h:(Lit.int .i64 x).wf=true): -9223372036854775808≤x∧x≤9223372036854775807:=by
 have hmin:IntKind.i64.min= -9223372036854775808:=rfl
 have hmax:IntKind.i64.max=9223372036854775807:=rfl
 simp only [Lit.wf,Bool.and_eq_true,decide_eq_true_eq] at h
 omega
theorem u64_b {x:Int} (h:(Lit.int .u64 x).wf=true):0≤x∧x≤18446744073709551615:=by
 have hmin:IntKind.u64.min=0:=rfl
 have hmax:IntKind.u64.max=18446744073709551615:=rfl
 simp only [Lit.wf,Bool.and_eq_true,decide_eq_true_eq] at h
 omega
section
variable {H:Type} {enc:TypeId × Value→H} {w:World} {base b:Nat} {sp:Nat→Bool} {hd:Bool} {r:Reach} {α:Type}
theorem open_int' {fuel:Nat} {c:Value} {x:DataW H × List MemPlace} (h:DataW.trod enc Tryz.prog w b sp hd fuel 3 [c]=some x):∃ n,c=.int .i64 n∧ -9223372036854775808≤n∧n≤9223372036854775807:=by
 obtain ⟨n,hc,_,hw⟩:=DataW.trod_int Tryz.underlying3 h
 injection hc with hc
 exact ⟨n,hc,i64_b hw⟩
theorem open_u64' {fuel:Nat} {c:Value} {x:DataW H × List MemPlace} (h:DataW.trod enc Tryz.prog w b sp hd fuel 32 [c]=some x):∃ n,c=.int .u64 n∧0≤n∧n≤18446744073709551615:=by
 obtain ⟨n,hc,_,hw⟩:=DataW.trod_int Tryz.underlying32 h
 injection hc with hc
 exact ⟨n,hc,u64_b hw⟩
theorem open_str' {fuel:Nat} {c:Value} {x:DataW H × List MemPlace} (h:DataW.trod enc Tryz.prog w b sp hd fuel 9 [c]=some x):∃ s:ByteArray,c=.string s∧x=(.lit (.string s.data.toList),[]):=by
 obtain ⟨s,hc,hx,_⟩:=DataW.trod_string Tryz.underlying9 h
 injection hc with hc
 exact ⟨s,hc,hx⟩
theorem weights_all {e:TypeId} {d:DataW H}:∀ {l:List (DataW H)},d ∈ l→∀ n ∈ d.weights Tryz.prog e,n ∈ DataW.weightsAll Tryz.prog e l
 |[],h,_,_=> nomatch h
 |a::l,h,n,hn=> by
  simp only [DataW.weightsAll,List.mem_append]
  rcases List.mem_cons.1 h with rfl|h
  · exact .inl hn
  · exact .inr (weights_all h n hn)
theorem open_rd [Inhabited α] {ts e:TypeId} {sz:Nat} {f:α→Array Value} {Q:α→DataW H→Prop} {fuel:Nat} {cs:List Value} {x:DataW H × List MemPlace} (ht:Tryz.prog.underlying ts=some (.slice e)) (hC:Tryz.prog.cellsOf e=sz) (hsz:0<sz) (hf:∀ x,(f x).size=sz)
 (hrow:∀ n cs y,cs.length=sz→DataW.trod enc Tryz.prog w b sp hd n e cs=some y→∃ x,cs=(f x).toList∧Q x y.1) (h:DataW.trod enc Tryz.prog w b sp hd fuel ts cs=some x):
 ∃ v l,cs=[v]∧Rd sz f w v l∧∀ y ∈ l,∃ d,Q y d∧∀ n ∈ d.weights Tryz.prog e,n ∈ x.1.weights Tryz.prog ts:=by
 rcases open_slice ht h with ⟨rfl,_⟩|⟨a,len,cap,m,n,D,P',rfl,_,hl,hm,hmm,hx,hi⟩
 · exact ⟨_,[],rfl,Rd.nil,fun y hy=> nomatch hy⟩
 · have hmax:Go.maxLen=9223372036854775807:=rfl
   have hlm:len≤m:=by rw [hmm];split <;> omega
   have hall:∀ i,i<len→∃ x:α,(∀ j u,(f x)[j]? =some u→w.cell? (a.add (i * sz + j))=some u)∧Q x (D i):=fun i hil=> by
    obtain ⟨cs',hc,ht'⟩:=hi i (by omega)
    obtain ⟨_,hlen,hat⟩:=World.cells?_some hc
    rw [hC] at hlen hat
    obtain ⟨x,hx,hq⟩:=hrow _ _ _ hlen ht'
    refine ⟨x,fun j u hj=> ?_,hq⟩
    have hjs:j<sz:=by have:=(Array.getElem?_eq_some_iff.1 hj).1;rwa [hf] at this
    rw [← add_add,hat j hjs,hx]
    simpa using hj
   obtain ⟨g,hg⟩:=choose_lt hall
   have hQ:∀ y ∈ (List.range len).map g,∃ d,Q y d∧∀ n ∈ d.weights Tryz.prog e,n ∈ x.1.weights Tryz.prog ts:=by
    intro y hy
    obtain ⟨i,hi',rfl⟩:=List.mem_map.1 hy
    have hil:=List.mem_range.1 hi'
    refine ⟨D i,(hg i hil).2,fun n hn=> ?_⟩
    rw [hx]
    simp only [DataW.weights,ht,List.mem_cons,List.mem_append]
    exact .inr (.inl (weights_all (List.mem_map.2 ⟨i,hi',rfl⟩) n hn))
   by_cases h0:len=0
   · subst h0
     exact ⟨_,[],rfl,⟨some a,cap,rfl,hl,hm,.inl rfl⟩,fun y hy=> nomatch hy⟩
   · have hu0:(f (g 0))[0]? =some ((f (g 0))[0]'(by rw [hf];exact hsz)):=Array.getElem?_eq_getElem _
     have hc0:=(hg 0 (by omega)).1 0 _ hu0
     obtain ⟨b',off,spot⟩:=a
     have hspot:spot=none:=by simpa [Addr.add] using World.cell?_spot hc0
     subst hspot
     refine ⟨_,(List.range len).map g,rfl,⟨_,cap,by rw [List.length_map,List.length_range],by rw [List.length_map,List.length_range];exact hl,hm,.inr ⟨b',off,rfl,?_,fun i x hx j u hj=> ?_⟩⟩,hQ⟩
     · have:=cell_lt hc0
       rw [add0] at this
       exact this
     · have hil:i<len:=by have:=(List.getElem?_eq_some_iff.1 hx).1;simpa using this
       rw [List.getElem?_map,List.getElem?_range hil] at hx
       obtain rfl:=Option.some.inj hx
       have:=(hg i hil).1 j u hj
       rw [add0] at this
       rw [Nat.add_assoc]
       exact this
theorem cells_str:Tryz.prog.cellsOf 9=1:=by kernel_rfl
theorem cells_int:Tryz.prog.cellsOf 3=1:=by kernel_rfl
theorem cells_u64:Tryz.prog.cellsOf 32=1:=by kernel_rfl
theorem cells_chan:Tryz.prog.cellsOf 111=5:=by kernel_rfl
theorem cells_strs:Tryz.prog.cellsOf 51=1:=by kernel_rfl
theorem cells_chans:Tryz.prog.cellsOf 24=1:=by kernel_rfl
instance:Inhabited ByteArray:=⟨ByteArray.empty⟩
instance:Inhabited Chan:=⟨⟨0,0,0,0,0⟩⟩
theorem open_strs {fuel:Nat} {cs:List Value} {x:DataW H × List MemPlace} (h:DataW.trod enc Tryz.prog w b sp hd fuel 51 cs=some x):∃ v l,cs=[v]∧Rd 1 strCells w v l:=by
 obtain ⟨v,l,h1,h2,_⟩:=open_rd (Q:=fun _ _=> True) Tryz.underlying51 cells_str (by decide) szStr (fun n cs y hl h=> by
  match cs,hl with
  |[c],_=>
   obtain ⟨s,rfl,_⟩:=open_str' h
   exact ⟨s,rfl,trivial⟩) h
 exact ⟨v,l,h1,h2⟩
theorem open_chans {fuel:Nat} {cs:List Value} {x:DataW H × List MemPlace} (h:DataW.trod enc Tryz.prog w b sp hd fuel 24 cs=some x):∃ v l,cs=[v]∧Rd 5 Chan.cells w v l:=by
 obtain ⟨v,l,h1,h2,_⟩:=open_rd (Q:=fun _ _=> True) Tryz.underlying24 cells_chan (by decide) szChan (fun n cs y hl h=> by
  match cs,hl with
  |[c0,c1,c2,c3,c4],_=>
   obtain ⟨xs,n,_,_,_,hl,hg⟩:=DataW.trod_struct Tryz.underlying111 h
   have hx:xs.length=5:=hl
   have g:∀ i,(hi:i<5)→∀ c,(([c0,c1,c2,c3,c4]:List Value).drop i).take 1=[c]→DataW.trod enc Tryz.prog w b sp hd n 3 [c]=some (xs[i]'(by omega)):=fun i hi c hc=> by
    rw [← List.getElem?_eq_getElem (by omega)]
    match i,hi with
    |0,_=> have:=hg 0 _ rfl;rw [← this,← hc];rfl
    |1,_=> have:=hg 1 _ rfl;rw [← this,← hc];rfl
    |2,_=> have:=hg 2 _ rfl;rw [← this,← hc];rfl
    |3,_=> have:=hg 3 _ rfl;rw [← this,← hc];rfl
    |4,_=> have:=hg 4 _ rfl;rw [← this,← hc];rfl
   obtain ⟨r0,rfl,_⟩:=open_int' (g 0 (by omega) c0 rfl)
   obtain ⟨r1,rfl,_⟩:=open_int' (g 1 (by omega) c1 rfl)
   obtain ⟨r2,rfl,_⟩:=open_int' (g 2 (by omega) c2 rfl)
   obtain ⟨r3,rfl,_⟩:=open_int' (g 3 (by omega) c3 rfl)
   obtain ⟨r4,rfl,_⟩:=open_int' (g 4 (by omega) c4 rfl)
   exact ⟨⟨r0,r1,r2,r3,r4⟩,rfl,trivial⟩) h
 exact ⟨v,l,h1,h2⟩
end
end Kn
end Go.Proofs.YtkepkcjjenidgaaGreatDoor
namespace Go.Proofs.YtkepkcjjenidgaaGreatDoor
open Go.ChangeShapes Go.WideShapes Go.ChangeAt Go.RowKit
theorem law_post {H:Type} {enc:TypeId × Value→H} {P:Program} {f:Func} {s:ChangeSpec} {apart fresh handsOn again:Bool} {W W':World} {args:Array Value} {ds:List (DataW H)} {before:List MemPlace} {tb:TypeId}
 (hW:DataW.Whole enc P f.params.toList s.vars apart W args.toList ds [] before)
 (hv:s.vars=[]) (hres:(s.fn H (ds ++ [])).results=[.lit (.bool true)]) (hargs:(s.fn H (ds ++ [])).args=ds) (hvs:(s.fn H (ds ++ [])).vars=[])
 (hrt:f.resultTypes=#[tb]) (hb:P.underlying tb=some .bool) (hl:laidOutB P=true) (hr:∀ t ∈ f.params.toList,P.readableRec t=true∧t<P.types.size)
 (hbel:Below W.heap.size W W'):s.post enc P f apart fresh handsOn again W args (.bool true) W':=by
 have hW':=hW
 obtain ⟨p,q,hA,hV,rfl,hfz,hnd⟩:=hW
 rw [hv] at hV
 obtain ⟨_,rfl⟩:=trodVars_none hV
 have hlt:∀ x ∈ p,x.block<W.heap.size:=fun x hx=> hW'.lt x (by simpa using hx)
 refine post_of_below (pa:=p) (pv:=[]) hW' ?_ ?_ ?_ rfl hbel ?_
 · intro b sp hd
   rw [hres,hrt]
   exact trodAll_mk1 (shut_bool hb true)
 · intro sp hsp
   rw [hargs]
   exact trodAll_stays hl hbel hr hA hlt sp (fun x hx=> hsp x (by simpa using hx))
 · intro sp _
   rw [hvs,hv]
   rfl
 · exact ok_one hrt rfl (okWide_bool_mk hb true)
theorem own:ownKnob Tryz.prog.godebug=none:=by kernel_rfl
theorem gTab:Tryz.prog.globalNamed "transom/isa.uses" =some 0:=by kernel_rfl
theorem gTabType:(Tryz.prog.globals[0]?).map (·.type)=some 329:=by kernel_rfl
theorem cells_tab:Tryz.prog.cellsOf 329=25:=by kernel_rfl
theorem tab_of {W:World} (h:laidMetH Tryz.prog [("transom/isa.uses",Rows.laid_transom_isa_uses)] W):Tab W:=fun k hk=> by
 have t:Lib.TabIs Tryz.prog W "transom/isa.uses" .i64 Cp.tbl:=Lib.tabIs_of_head (rest:=[]) gTab gTabType Tryz.underlying329 Tryz.underlying3 Kn.cells_int cells_tab h
 exact t.cell gTab k hk
noncomputable def laidWorld (os:Os):World:=
 {World.holding Tryz.prog os ⟨#[],#[],[]⟩ with heap:=(World.holding Tryz.prog os ⟨#[],#[],[]⟩).heap.modify 0 fun
  | .cells _ t frozen=> .cells (Cp.tbl.map (Value.int .i64)).toArray t frozen
  |o=> o}
theorem looks_off:false=Tryz.pinned.checked.prog.looks []:=by kernel_rfl
theorem laid_outB:laidOutB Tryz.prog=true:=by kernel_rfl
end Go.Proofs.YtkepkcjjenidgaaGreatDoor
namespace Go.Proofs.YtkepkcjjenidgaaGreatDoor
open Go.ChangeShapes Go.WideShapes Go.ChangeAt Go.RowKit Go.Joins Go.Deep KR
namespace Kn
section
variable {H:Type} {enc:TypeId × Value→H} {w:World} {base b:Nat} {sp:Nat→Bool} {hd:Bool} {r:Reach}
theorem cells_act3:Tryz.prog.cellsOf 62=3:=by kernel_rfl
theorem cells_part:Tryz.prog.cellsOf 64=4:=by kernel_rfl
theorem open_part {fuel:Nat} {c0 c1 c2 c3:Value} {x:DataW H × List MemPlace} (h:DataW.trod enc Tryz.prog w b sp hd fuel 64 [c0,c1,c2,c3]=some x):
 ∃ p:Part,c0=.int .i64 p.mem∧c1=.int .i64 p.a1∧c2=.int .i64 p.a2∧c3=.int .i64 p.a3∧PartOk p:=by
 obtain ⟨xs,n,_,_,_,hl,hgg⟩:=DataW.trod_struct Tryz.underlying64 h
 have hx:xs.length=2:=hl
 have g0':DataW.trod enc Tryz.prog w b sp hd n 3 (([c0,c1,c2,c3].drop 0).take (Tryz.prog.cellsOf 3))=xs[0]? :=hgg 0 _ rfl
 rw [List.getElem?_eq_getElem (by omega),cells_int] at g0'
 have g0:DataW.trod enc Tryz.prog w b sp hd n 3 [c0]=some (xs[0]'(by omega)):=g0'
 have g1':DataW.trod enc Tryz.prog w b sp hd n 62 (([c0,c1,c2,c3].drop 1).take (Tryz.prog.cellsOf 62))=xs[1]? :=hgg 1 _ rfl
 rw [List.getElem?_eq_getElem (by omega),cells_act3] at g1'
 have g1:DataW.trod enc Tryz.prog w b sp hd n 62 [c1,c2,c3]=some (xs[1]'(by omega)):=g1'
 obtain ⟨ys,m,_,_,_,hyl,hy⟩:=DataW.trod_array Tryz.underlying62 g1
 have y:∀ i,(hi:i<3)→DataW.trod enc Tryz.prog w b sp hd m 3 ((([c1,c2,c3].drop (i * 1)).take 1))=some (ys[i]'(by omega)):=fun i hi=> by
  have:=hy i hi
  rw [List.getElem?_eq_getElem (by omega),cells_int] at this
  exact this
 obtain ⟨r0,rfl,m0,m1⟩:=open_int' g0
 obtain ⟨r1,rfl,_⟩:=open_int' (y 0 (by omega))
 obtain ⟨r2,rfl,_⟩:=open_int' (y 1 (by omega))
 obtain ⟨r3,rfl,_⟩:=open_int' (y 2 (by omega))
 exact ⟨⟨r0,r1,r2,r3⟩,rfl,rfl,rfl,rfl,m0,m1⟩
instance:Inhabited SDeed:=⟨⟨0,0,ByteArray.empty⟩⟩
theorem small_of {T:TypeId} {ts:List TypeId} {ds:List (DataW H)} {j:Nat} {d:DataW H} (hr:(DataW.weightsEach Tryz.prog ts ds).all (· ≤reachBytes)=true) (ht:ts[j]? =some T) (hd:ds[j]? =some d)
 {n:Nat} (h:n ∈ d.weights Tryz.prog T):n≤140737488355328:=by
 have h1:=List.all_eq_true.1 hr _ (DataW.weights_mem_each ht hd _ h)
 have h2:n≤reachBytes:=by simpa using h1
 unfold reachBytes at h2
 omega
end
end Kn
end Go.Proofs.YtkepkcjjenidgaaGreatDoor
