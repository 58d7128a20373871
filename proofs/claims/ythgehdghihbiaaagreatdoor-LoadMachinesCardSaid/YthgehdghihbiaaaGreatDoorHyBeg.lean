/- hyper.Begin: a machine that begins, or why there is none. Conditions: a plan as it lies, rows of texts as they are read, no longer than Go can hold. -/
import Derived.Test.YthgehdghihbiaaaGreatDoorGHy
import Derived.Test.YthgehdghihbiaaaGreatDoorKApp
set_option linter.unusedVariables false
set_option maxRecDepth 100000
set_option maxHeartbeats 8000000
set_option linter.unusedSimpArgs false
namespace Go.Proofs.YthgehdghihbiaaaGreatDoor
open Go.RowKit KR Kn RegT3
namespace Hy
theorem flat_repA:∀ n:Nat,flat AB.cells (List.replicate n ⟨.slice none 0 0,[]⟩)=(List.range (n * 1)).map (fun i=> (#[Value.slice none 0 0]:Array Value)[i % 1]!)
 |0=> rfl
 |n + 1=> by
  rw [List.replicate_succ',flat_append,flat_repA n,Nat.add_mul,Nat.one_mul,List.range_succ,List.map_append]
  congr 1
  simp [flat,AB.cells,Nat.mod_one]
theorem mkArr (w:World) (n:Nat) (hn:n≤1000000):∃ v W',(Instr.makeSlice 31 (.int .i64 (n:Int)) (.int .i64 (n:Int))).run Tryz.prog w=.ok v W'∧ArrAt W' v (List.replicate n ⟨.slice none 0 0,[]⟩)∧Below w.heap.size w W':=by
 have hi:(Tryz.prog.info? 74).map (fun i=> (i.zero.map (·.cells),i.size,i.bytes))=some (some #[.slice none 0 0],1,24):=by kernel_rfl
 cases hq:Tryz.prog.info? 74 with
 |none=> simp [hq] at hi
 |some i=>
  rw [hq] at hi
  simp only [Option.map_some,Option.some.injEq,Prod.mk.injEq] at hi
  obtain ⟨hz,hs,hb⟩:=hi
  cases hz0:i.zero with
  |none=> simp [hz0] at hz
  |some z=>
   rw [hz0] at hz
   simp only [Option.map_some,Option.some.injEq] at hz
   obtain ⟨W',hrun,hown,hg⟩:=run_makeSlice_full (P:=Tryz.prog) w w.heap.size 31 74 i z 1 Tryz.underlying31 hq hz0 hs .i64 .i64 n (by omega) (by rw [hb];omega) (by unfold maxLen;omega) (Nat.le_refl _)
   refine ⟨_,W',hrun,⟨?_,fun x hx=> ?_⟩,⟨hg.os,hg.tape,hg.output,hg.size,fun k hk=> hg.block k hk (by simp)⟩⟩
   · have hO:KR.Own 74 1 AB.cells w.heap.size W' (.slice (some ⟨w.heap.size,0,none⟩) n n) (List.replicate n ⟨.slice none 0 0,[]⟩):=by
      unfold KR.Own
      rw [List.length_replicate,flat_repA]
      have:(madeCells z.cells (n * 1)).toList=(List.range (n * 1)).map (fun i=> (#[Value.slice none 0 0]:Array Value)[i % 1]!):=by
       rw [hz]
       simp [madeCells,Array.toList_map,Array.toList_range]
      rw [← this]
      exact hown
     exact KR.Own.sl szAB hO
   · obtain rfl:=List.eq_of_mem_replicate hx
     exact Sl.nil
theorem HBegin1 (b:Nat) (im:Value) (l:List (List ByteArray)) (i:Nat) (w:World) (hb:w.heap[b]? =some (.cells #[im] 28 (0,0))) (h:ImgAt w im l):
 ∃ u,Rd 1 strCells w u (l.getD i [])∧Calls Tryz.prog 31 #[.int .i64 i,.pointer (some ⟨b,0,none⟩)] w (Is u w):=by
 obtain ⟨a,c,rfl,hlc,hmax,hh⟩:=h
 have f0:w.cell? ⟨b,0,none⟩=some (.slice a l.length c):=hcell hb 0
 have i0:(0:Int)≤(i:Int):=by omega
 by_cases hi:i<l.length
 · rcases hh with rfl|⟨b2,off,rfl,hb2,hcell⟩
   · simp at hi
   · obtain ⟨u,hu,hr⟩:=hcell i (l[i]) (List.getElem?_eq_getElem hi)
     refine ⟨u,by rw [List.getD_eq_getElem?_getD,List.getElem?_eq_getElem hi];exact hr,?_⟩
     have e1:decide ((l.length:Int)≤(i:Int))=false:=by simp;omega
     have e2:decide (l.length≤i)=false:=by simp;omega
     have e3:(i:Int)<(l.length:Int):=by omega
     clear hcell hr hlc hmax
     go_enter Tryz.func31,Tryz.ntmps31
     repeat' (first|go_values|go_skip|go_guarded|(with_reducible refine wg ?_)|go_step|go_upon)
     go_ret
     exact ⟨rfl,rfl⟩
 · refine ⟨.slice none 0 0,?_,?_⟩
   · rw [List.getD_eq_getElem?_getD,List.getElem?_eq_none (by omega)]
     exact Sl.nil.rd (E:=9)
   · have e1:decide ((l.length:Int)≤(i:Int))=true:=by simp;omega
     have e2:decide (l.length≤i)=true:=by simp;omega
     clear hh hlc hmax
     go_enter Tryz.func31,Tryz.ntmps31
     repeat' (first|go_values|go_skip|go_guarded|(with_reducible refine wg ?_)|go_step|go_upon)
     go_ret
     exact ⟨rfl,rfl⟩
theorem ones_zero:∀ u ∈ (Value.agg #[.slice none 0 0,.int .i64 0,.slice none 0 0,.slice none 0 0,.slice none 0 0,.int .u64 0,.int .i64 0,.int .i64 0,.slice none 0 0,.slice none 0 0,.int .i64 0]).cells.toList,u.oneCell'=true:=List.all_eq_true.1 (show ((Value.agg #[.slice none 0 0,.int .i64 0,.slice none 0 0,.slice none 0 0,.slice none 0 0,.int .u64 0,.int .i64 0,.int .i64 0,.slice none 0 0,.slice none 0 0,.int .i64 0]).cells.toList.all (·.oneCell'))=true from rfl)
theorem zeroSeat:∀ W,(zeroValue 72).run Tryz.prog W=.ok (.agg #[.slice none 0 0,.slice none 0 0,.int .i64 0,.slice none 0 0,.slice none 0 0,.int .i64 0,.slice none 0 0,.int .u64 0,.slice none 0 0,.slice none 0 0,.slice none 0 0,.slice none 0 0,.string ⟨#[]⟩,.slice none 0 0,.slice none 0 0,.int .i64 0,.int .i64 0,.int .i64 0,.int .i64 0]) W:=zero_of (by kernel_rfl)
theorem onesPart (x:Part):∀ u ∈ (Value.agg (Part.cells x)).cells.toList,u.oneCell'=true:=List.all_eq_true.1 (show ((Value.agg (Part.cells x)).cells.toList.all (·.oneCell'))=true from rfl)
def GivesB (vp vw vc im:Value) (P:Pl.Plan) (l:List (List ByteArray)) (w:World) (e:Ending) (w':World):Prop:=
 (Pl.check P ≠ 0∧e=.returned (.tuple #[.agg #[.slice none 0 0,.int .i64 0,.slice none 0 0,.slice none 0 0,.slice none 0 0,.int .u64 0,.int .i64 0,.int .i64 0,.slice none 0 0,.slice none 0 0,.int .i64 0],.int .i64 (Pl.check P)])∧Below w.heap.size w w')∨
 (Pl.check P=0∧∃ y,e=.returned (.tuple #[.agg (ycells y (mbegin P l)),.int .i64 0])∧SysAt w' y (mbegin P l)∧(y.vp=vp∧y.vw=vw∧y.vc=vc∧y.im=im)∧Below w.heap.size w w')
theorem GivesB.cells {vp vw vc im:Value} {P:Pl.Plan} {l:List (List ByteArray)} {w w':World} {e:Ending} (h:GivesB vp vw vc im P l w e w'):∃ (c:Array Value) (ck:Int),e=.returned (.tuple #[.agg c,.int .i64 ck])∧c.size=11∧(∀ u ∈ (Value.agg c).cells.toList,u.oneCell'=true)∧Below w.heap.size w w'∧
 (ck=0→Pl.check P=0∧∃ y,c=ycells y (mbegin P l)∧SysAt w' y (mbegin P l)∧(y.vp=vp∧y.vw=vw∧y.vc=vc∧y.im=im)):=by
 rcases h with ⟨h,rfl,hb⟩|⟨h,y,rfl,hs,hv,hb⟩
 · exact ⟨_,_,rfl,rfl,ones_zero,hb,fun h0=> absurd h0 h⟩
 · exact ⟨_,_,rfl,rfl,onesY hs,hb,fun _=> ⟨h,y,rfl,hs,hv⟩⟩
theorem PlanR.wins {W:World} {vp vw vc:Value} {P:Pl.Plan} (h:PlanR W vp vw vc P):∃ a c,vw=.slice a P.ws.length c:=by
 obtain ⟨vp',vw',vc',hv,_,hw,_⟩:=h.pl
 unfold pcells at hv
 injection hv with hv
 simp only [Array.mk.injEq,List.cons.injEq,and_true,true_and] at hv
 rw [hv.2.1]
 obtain ⟨a,c,rfl,_⟩:=hw
 exact ⟨a,c,rfl⟩
def mpart (P:Pl.Plan) (l:List (List ByteArray)) (i:Nat):Mach:={mbegin P l with seats:=(mbegin P l).seats.take i}
def BegR (w:World) (vp vw vc im:Value) (P:Pl.Plan) (l:List (List ByteArray)) (va:Value) (b7:Nat) (iv:Value) (W:World):Prop:=
 ∃ (i:Nat) (vs:Value) (ls:List SB),i≤P.ps.length∧iv=.int .i64 i∧Hid (W.heap[w.heap.size]? =some (.cells (pcells vp vw vc P.fr) 27 (0,0)))∧Hid (W.heap[w.heap.size + 1]? =some (.cells #[im] 28 (0,0)))∧
   Hid (W.heap[w.heap.size + 1 + 1]? =some (.cells #[.slice none 0 0,.int .i64 0,.slice none 0 0,.slice none 0 0,.slice none 0 0,.int .u64 0,.int .i64 0,.int .i64 0,.slice none 0 0,.slice none 0 0,.int .i64 0] 33 (0,0)))∧Hid (W.heap[b7]? =some (.cells (ycells ⟨vp,vw,vc,im,vs,va,[],[]⟩ (mpart P l i)) 33 (0,0)))∧
   Hid (KR.Own 72 19 SB.cells w.heap.size W vs ls)∧Hid (∀ x ∈ ls,LayAt W x.y x.bs x.s.k)∧Hid (ls.map (·.s)=(mpart P l i).seats)∧Hid (ArrAt W va (List.replicate P.ps.length ⟨.slice none 0 0,[]⟩))∧Hid (Below w.heap.size w W)
theorem mseats_at {P:Pl.Plan} {l:List (List ByteArray)} {i:Nat} (h:i<P.ps.length):(mpart P l (i + 1)).seats=(mpart P l i).seats ++ [sbegin (partOf (P.ps.getD i [])) (l.getD i []) (outsOf (chans P) i) (insOf (chans P) i)]:=by
 unfold mpart mbegin
 show List.take (i + 1) _=List.take i _ ++ _
 rw [List.take_add_one,List.getElem?_map,List.getElem?_range h]
 rfl
theorem mpart_all (P:Pl.Plan) (l:List (List ByteArray)):mpart P l P.ps.length=mbegin P l:=by
 unfold mpart mbegin
 rw [List.take_of_length_le (by simp)]
theorem tnA {E:TypeId} {W W':World} {v:Value} {l:List AB} (ht:Tn E W W') (h:ArrAt W v l) (h1:74 ≠ E) (h2:126 ≠ E):ArrAt W' v l:=
 ⟨h.1.stay (fun j c hj=> ht.oth j c _ (Ne.symm h1) hj),fun x hx=> (h.2 x hx).stay (fun j c hj=> ht.oth j c _ (Ne.symm h2) hj)⟩
theorem one_rd {α:Type} {T:TypeId} {sz:Nat} {f:α→Array Value} {W:World} {n:Nat} {x:α} (h:W.heap[n]? =some (.cells (f x) T (0,0))):Rd sz f W (.slice (some ⟨n,0,none⟩) 1 1) [x]:=
 ⟨_,1,rfl,Nat.le_refl _,by decide,.inr ⟨n,0,rfl,hlt h,fun i y hy j u hj=> by
   obtain rfl:i=0:=by
    rcases i with _|i
    · rfl
    · simp at hy
   obtain rfl:x=y:=by simpa using hy
   rw [show 0 + 0 * sz + j=j by rw [Nat.zero_mul];omega]
   exact (hcell h j).trans hj⟩⟩
theorem ownB {α:Type} {E:TypeId} {sz B:Nat} {f:α→Array Value} {W W':World} {v:Value} {l:List α} (hb:Below W.heap.size W W') (h:Hid (KR.Own E sz f B W v l)):Hid (KR.Own E sz f B W' v l):=hU (ownsRow_below h.out hb)
theorem ownT {α:Type} {E T:TypeId} {sz B b:Nat} {f:α→Array Value} {c cs:Array Value} {W W':World} {v:Value} {l:List α} (h:KR.Own E sz f B W v l) (hb:W.heap[b]? =some (.cells c T (0,0))) (hp:Put b cs T W W') (hT:E ≠ T):KR.Own E sz f B W' v l:=
 ⟨h.1,by
   rcases h.2 with h2|⟨g,cap,cur,rfl,h1,h2,h3⟩
   · exact .inl h2
   · exact .inr ⟨g,cap,cur,rfl,h1,(hp.oth g (ne_of_types h2 hb hT)).trans h2,h3⟩⟩
theorem HBegin (vp vw vc im:Value) (P:Pl.Plan) (l:List (List ByteArray)) (w:World) (h:PlanR w vp vw vc P) (hfr:P.fr≤9223372036854775807) (him:ImgAt w im l) (hl:∀ r ∈ l,r.length≤8796093022207):
 Calls Tryz.prog 11 #[.agg (pcells vp vw vc P.fr),im] w (GivesB vp vw vc im P l w):=by
 obtain ⟨ap,cpp,hvp,_,_⟩:=h.pa.shape
 rw [show (parts P).length=P.ps.length from List.length_map _] at hvp
 subst hvp
 obtain ⟨ai,ci,rfl,_⟩:=id him
 obtain ⟨q0,q1,q2⟩:=KR.three_new w w.heap.size (.cells (pcells (.slice ap P.ps.length cpp) vw vc P.fr) 27) (.cells #[.slice ai l.length ci] 28) (.cells #[.slice none 0 0,.int .i64 0,.slice none 0 0,.slice none 0 0,.slice none 0 0,.int .u64 0,.int .i64 0,.int .i64 0,.slice none 0 0,.slice none 0 0,.int .i64 0] 33) rfl
 have hb0:Below w.heap.size w (((w.alloc (.cells (pcells (.slice ap P.ps.length cpp) vw vc P.fr) 27)).alloc (.cells #[.slice ai l.length ci] 28)).alloc (.cells #[.slice none 0 0,.int .i64 0,.slice none 0 0,.slice none 0 0,.slice none 0 0,.int .u64 0,.int .i64 0,.int .i64 0,.slice none 0 0,.slice none 0 0,.int .i64 0] 33)):=bel
 obtain ⟨Wn,hW0⟩:=exW (((w.alloc (.cells (pcells (.slice ap P.ps.length cpp) vw vc P.fr) 27)).alloc (.cells #[.slice ai l.length ci] 28)).alloc (.cells #[.slice none 0 0,.int .i64 0,.slice none 0 0,.slice none 0 0,.slice none 0 0,.int .u64 0,.int .i64 0,.int .i64 0,.slice none 0 0,.slice none 0 0,.int .i64 0] 33))
 rw [hW0] at q0 q1 q2 hb0
 have HP:=hU q0
 have HI:=hU q1
 have HR:=hU q2
 have HB:=hU hb0
 have HCK:=hU (fun W (hb:Below w.heap.size w W)=> Plan.Check (.agg (pcells (.slice ap P.ps.length cpp) vw vc P.fr)) P W (h.below hb).pl hfr)
 have HPL:=hU (fun W (hb:Below w.heap.size w W)=> h.below hb)
 have HIM:=hU (fun W (hb:Below w.heap.size w W)=> him.below hb)
 have HIL:=hU hl
 clear q0 q1 q2 hb0 h him hl
 go_enter Tryz.func11,Tryz.ntmps11
 repeat' (first
  |(rw [hW0];clear hW0)
  |(refine wpList_load (t:=27) (v:=.agg (pcells (.slice ap P.ps.length cpp) vw vc P.fr)) rfl rfl rfl (run_load_whole aggPlan HP.out rfl) ?_)
  |go_values|go_skip|go_guarded|(with_reducible refine wg ?_)|go_step|go_upon)
 refine (HCK.out _ HB.out).mono ?_
 rintro er Wn ⟨rfl,hb⟩
 replace HP:=nB hb HP
 replace HI:=nB hb HI
 replace HR:=nB hb HR
 replace HB:=nW hb HB
 clear hb HCK
 dsimp only
 obtain ⟨ck,hck⟩:∃ ck,Pl.check P=ck:=⟨_,rfl⟩
 rw [hck]
 by_cases h0:ck=0
 case neg=>
  have e1:(ck !=0)=true:=by simpa using h0
  repeat' (first
   |(refine wpList_store (t:=33) (v:=.agg #[.slice none 0 0,.int .i64 0,.slice none 0 0,.slice none 0 0,.slice none 0 0,.int .u64 0,.int .i64 0,.int .i64 0,.slice none 0 0,.slice none 0 0,.int .i64 0]) (off:=0) (new:=#[.slice none 0 0,.int .i64 0,.slice none 0 0,.slice none 0 0,.slice none 0 0,.int .u64 0,.int .i64 0,.int .i64 0,.slice none 0 0,.slice none 0 0,.int .i64 0]) rfl rfl rfl rfl aggSys.size HR.out rfl (show 0 + 11≤11 by decide) ones_zero rfl ?_;intro Wn hp
     have hB:=Below.put HB.out hp (by omega)
     replace HR:=pA hp
     replace HB:=hU hB
     clear hB hp)
   |go_values|go_skip|go_guarded|(with_reducible refine wg ?_)|go_step|go_upon)
  (try simp only [Exit.inBlock,Exit.then]);refine bodyPost_ret (res_cell_tmp Tryz.results11 aggSys rfl HR.out rfl) rfl ?_
  exact .inl ⟨by rw [hck];exact h0,by rw [hck];rfl,HB.out⟩
 case pos=>
  subst h0
  have HCK:=hU hck
  have hps:P.ps.length≤4:=(Pl.check_zero hck).2.1
  have hcs:P.cs.length≤6:=(Pl.check_zero hck).2.2.2.2.1
  have hnp:P.ps.length≤1000000:=by omega
  have HPO:=hU (fun i=> part_ok hck i)
  obtain ⟨gp,offp,hga⟩:∃ gp offp,ap=some ⟨gp,offp,none⟩:=by
   obtain ⟨_,_,he,_,_,hh⟩:=(HPL.out w (Below.refl _ _)).pa
   injection he with he1 _ _
   rcases hh with hh|⟨gp,offp,hga,_⟩
   · have h1:(parts P).length=0:=by rw [hh];rfl
     rw [show (parts P).length=P.ps.length from List.length_map _] at h1
     have:=(Pl.check_zero hck).1
     omega
   · exact ⟨gp,offp,he1.trans hga⟩
  subst hga
  clear hck
  repeat' (first|go_values|go_skip|go_guarded|(with_reducible refine wg ?_)|go_step|go_upon)
  refine wp_region_noPanic ?_
  refine go0 (S:=fun W=> W.heap[w.heap.size]? =some (.cells #[(.slice (some ⟨gp,offp,none⟩) P.ps.length cpp),.int .i64 P.fr,vw,vc] 27 (0,0))∧W.cell? ⟨w.heap.size + 1,0,none⟩=some (.slice ai l.length ci)∧W.cell? ⟨w.heap.size,0,none⟩=some (.slice (some ⟨gp,offp,none⟩) P.ps.length cpp)) [8] (⟨HP.out,hcell HI.out 0,hcell HP.out 0⟩) fun hS=> ?_
  obtain ⟨Wd,hWd⟩:=exW Wn.drew
  replace HP:=dB hWd HP
  replace HI:=dB hWd HI
  replace HR:=dB hWd HR
  replace HB:=nW (dW hWd) HB
  rw [hWd] at hS ⊢
  clear hWd
  refine tv 0 (.agg #[(.slice (some ⟨gp,offp,none⟩) P.ps.length cpp),.int .i64 P.fr,vw,vc]) (fun W hSW=> run_val_load rfl rfl (run_load_whole aggPlan hSW.1 rfl)) ?_;(try simp only [acts])
  refine tl 1 ?_;(try simp only [acts])
  refine tp 2 ?_;(try simp only [acts])
  refine tl 3 ?_;(try simp only [acts])
  refine tp 4 ?_;(try simp only [acts])
  clear hS
  revert HP HI HR HB
  apply KR.join4 (F:=fun (aa:Option Addr) (ca:Nat) (b7:Nat) (Wn:World)=> Hid (Wn.heap[w.heap.size]? =some (.cells (pcells (.slice (some ⟨gp,offp,none⟩) P.ps.length cpp) vw vc P.fr) 27 (0,0)))∧Hid (Wn.heap[w.heap.size + 1]? =some (.cells #[.slice ai l.length ci] 28 (0,0)))∧Hid (Wn.heap[w.heap.size + 1 + 1]? =some (.cells #[.slice none 0 0,.int .i64 0,.slice none 0 0,.slice none 0 0,.slice none 0 0,.int .u64 0,.int .i64 0,.int .i64 0,.slice none 0 0,.slice none 0 0,.int .i64 0] 33 (0,0)))∧Hid (Below w.heap.size w Wn)∧Hid (ArrAt Wn (.slice aa P.ps.length ca) (List.replicate P.ps.length ⟨.slice none 0 0,[]⟩))∧Hid (Wn.heap[b7]? =some (.cells #[.slice none 0 0,.int .i64 0,.slice none 0 0,.slice none 0 0,.slice none 0 0,.int .u64 0,.int .i64 0,.int .i64 0,.slice none 0 0,.slice none 0 0,.int .i64 0] 33 (0,0)))∧w.heap.size + 1 + 1<b7)
  case h2=>
   intro hj HP HI HR HB
   refine twoL (i:=5) (j:=7) (by kernel_rfl) rfl rfl (fun K hK=> ?_) (fun K hK=> ?_)
   · refine want rfl ?_
     obtain ⟨va,Wn,hrun,hva,hb⟩:=mkArr Wd P.ps.length hnp
     obtain ⟨aa,ca,hva2,_,_⟩:=hva.1.shape
     rw [List.length_replicate] at hva2
     subst hva2
     refine wp_make (vx:=.int .i64 (P.ps.length:Int)) (vy:=.int .i64 (P.ps.length:Int)) rfl rfl rfl hrun ?_
     replace HP:=nB hb HP
     replace HI:=nB hb HI
     replace HR:=nB hb HR
     replace HB:=nW hb HB
     have HA:=hU hva
     clear hrun hva hb
     refine nx hK (⟨HP.out,hcell HI.out 0,hcell HP.out 0⟩) fun hS=> ?_
     clear hK K hS
     (try simp only [acts])
     refine tp 6 ?_ (hS:=fun _=> ⟨HP.out,hcell HI.out 0,hcell HP.out 0⟩);(try simp only [acts])
     refine ro 7 fun K hK=> ?_
     go_simp
     obtain ⟨b7,hab,hbz⟩:=nbz HB
     have hb7:=nlt HR hab
     obtain ⟨W1,hWn,hba,H7⟩:=nb1 (W:=Wn) (.cells #[.slice none 0 0,.int .i64 0,.slice none 0 0,.slice none 0 0,.slice none 0 0,.int .u64 0,.int .i64 0,.int .i64 0,.slice none 0 0,.slice none 0 0,.int .i64 0] 33) hab
     rw [hWn]
     clear hWn
     replace HP:=nB hba HP
     replace HI:=nB hba HI
     replace HR:=nB hba HR
     replace HB:=nW hba HB
     replace HA:=hU (HA.out.below hba)
     clear hba
     try rw [hab]
     clear hab
     refine nx hK (⟨HP.out,hcell HI.out 0,hcell HP.out 0⟩) fun hS=> ?_
     clear hK K hS
     (try simp only [acts])
     exact hj aa ca b7 W1 ⟨HP,HI,HR,HB,HA,H7,hb7⟩
   · go_simp
     obtain ⟨b7,hab,hbz⟩:=nbz HB
     have hb7:=nlt HR hab
     obtain ⟨W1,hWn,hba,H7⟩:=nb1 (W:=Wd) (.cells #[.slice none 0 0,.int .i64 0,.slice none 0 0,.slice none 0 0,.slice none 0 0,.int .u64 0,.int .i64 0,.int .i64 0,.slice none 0 0,.slice none 0 0,.int .i64 0] 33) hab
     rw [hWn]
     clear hWn
     replace HP:=nB hba HP
     replace HI:=nB hba HI
     replace HR:=nB hba HR
     replace HB:=nW hba HB
     clear hba
     try rw [hab]
     clear hab
     refine nx hK (⟨HP.out,hcell HI.out 0,hcell HP.out 0⟩) fun hS=> ?_
     clear hK K hS
     (try simp only [acts])
     refine ro 5 fun K hK=> ?_
     refine want rfl ?_
     obtain ⟨va,Wn,hrun,hva,hb⟩:=mkArr W1 P.ps.length hnp
     obtain ⟨aa,ca,hva2,_,_⟩:=hva.1.shape
     rw [List.length_replicate] at hva2
     subst hva2
     refine wp_make (vx:=.int .i64 (P.ps.length:Int)) (vy:=.int .i64 (P.ps.length:Int)) rfl rfl rfl hrun ?_
     replace HP:=nB hb HP
     replace HI:=nB hb HI
     replace HR:=nB hb HR
     replace HB:=nW hb HB
     replace H7:=nB hb H7
     have HA:=hU hva
     clear hrun hva hb
     refine nx hK (⟨HP.out,hcell HI.out 0,hcell HP.out 0⟩) fun hS=> ?_
     clear hK K hS
     (try simp only [acts])
     refine tp 6 ?_ (hS:=fun _=> ⟨HP.out,hcell HI.out 0,hcell HP.out 0⟩);(try simp only [acts])
     exact hj aa ca b7 Wn ⟨HP,HI,HR,HB,HA,H7,hb7⟩
  rintro aa ca b7 Wn ⟨HP,HI,HR,HB,HA,H7,hb7⟩
  have HVA:Hid (Value.oneCell' (.slice aa P.ps.length ca)=true):=hU rfl
  obtain ⟨va,hva⟩:∃ va,(Value.slice aa P.ps.length ca)=va:=⟨_,rfl⟩
  rw [hva] at HA HVA
  obtain ⟨h1,h2,h3⟩:=onesPl (HPL.out w (Below.refl _ _))
  have HON:Hid (∀ (vs:Value) (i:Nat),vs.oneCell'=true→∀ u ∈ (Value.agg (ycells ⟨(.slice (some ⟨gp,offp,none⟩) P.ps.length cpp),vw,vc,(.slice ai l.length ci),vs,va,[],[]⟩ (mpart P l i))).cells.toList,u.oneCell'=true):=hU (fun vs i hv u hu=> by
   have hv2:=HVA.out
   simp only [Value.cells,ycells,List.mem_cons,List.not_mem_nil,or_false] at hu
   rcases hu with rfl|rfl|rfl|rfl|rfl|rfl|rfl|rfl|rfl|rfl|rfl <;> first|rfl|assumption)
  clear h1 h2 h3
  refine ro 8 fun K hK=> ?_
  refine want rfl ?_
  refine wp_store (v:=.agg (ycells ⟨(.slice (some ⟨gp,offp,none⟩) P.ps.length cpp),vw,vc,(.slice ai l.length ci),.slice none 0 0,va,[],[]⟩ (mpart P l 0))) (off:=0) (new:=ycells ⟨(.slice (some ⟨gp,offp,none⟩) P.ps.length cpp),vw,vc,(.slice ai l.length ci),.slice none 0 0,va,[],[]⟩ (mpart P l 0)) rfl rfl (by rw [← hva];rfl) aggSys.size H7.out rfl (show 0 + 11≤11 by decide) (HON.out _ _ rfl) rfl ?_
  intro Wn hp
  have hB:=Below.put HB.out hp (by omega)
  replace HP:=pO hp HP
  replace HI:=pO hp HI
  replace HR:=pO hp HR
  replace HA:Hid (ArrAt Wn va (List.replicate P.ps.length ⟨.slice none 0 0,[]⟩)):=hU ⟨HA.out.1.put H7.out hp (by decide),fun x hx=> (HA.out.2 x hx).put H7.out hp (by decide)⟩
  replace H7:=pA hp
  replace HB:=hU hB
  clear hB hp
  refine nt hK ?_
  clear hK K hva
  (try simp only [acts])
  refine doneL (by kernel_rfl) (NoPanic.normal ?_) _
  have p0:Wn.cell? ⟨w.heap.size,0,none⟩=some (.slice (some ⟨gp,offp,none⟩) P.ps.length cpp):=hcell HP.out 0
  repeat' (first|go_values|go_skip|go_guarded|(with_reducible refine wg ?_)|go_step|go_upon)
  clear p0
  go_loopw [28] (fun iv wr=> BegR w (.slice (some ⟨gp,offp,none⟩) P.ps.length cpp) vw vc (.slice ai l.length ci) P l va b7 iv wr) (fun iv _=> P.ps.length - (intOf iv).toNat)
  case atStart=> exact ⟨0,.slice none 0 0,[],Nat.zero_le _,rfl,HP,HI,HR,H7,hU (KR.Own.nil _ _ _ _ _),hU (fun x hx=> nomatch hx),hU rfl,HA,HB⟩
  case round=>
   clear HP HI HR H7 HA HB
   obtain ⟨i,vs,ls,him,rfl,HP,HI,HR,H7,HO,HLS,HSL,HA,HB⟩:=hrel
   obtain ⟨Wn,rfl⟩:∃ Wn,Wn=wr:=⟨_,rfl⟩
   by_cases hil:i<P.ps.length
   · have e1:decide ((i:Int)<(P.ps.length:Int))=true:=by simp;omega
     have e2:decide (i<P.ps.length)=true:=by simp;omega
     have i0:(0:Int)≤(i:Int):=by omega
     have i1:(i:Int)<(P.ps.length:Int):=by omega
     have hpa:=parts_at (P:=P) (who:=i) (by omega)
     obtain ⟨xp,hxp⟩:∃ xp,partOf (P.ps.getD i [])=xp:=⟨_,rfl⟩
     rw [hxp] at hpa
     obtain ⟨gp2,offp2,hgap,hglp,hcellp⟩:=(HPL.out Wn HB.out).pa.elem.2.2.2 i xp hpa
     injection hgap with hgap
     injection hgap with hg1 hg2 _
     subst hg1 hg2
     have HCP:=hU (hcellp Wn (Below.refl _ _))
     have HXP:=hU hxp
     clear hcellp hglp hpa hxp
     obtain ⟨bx,habx,hbzx⟩:=nbz HB
     obtain ⟨W1,hW1,hba1,HX⟩:=nb1 (W:=Wn) (.cells #[.int .i64 0,.int .i64 0,.int .i64 0,.int .i64 0] 96) habx
     repeat' (first
      |(rw [hW1,habx];clear hW1)
      |(refine wpList_load (t:=96) (v:=.agg (Part.cells xp)) rfl rfl rfl (run_load_arr aggPart rfl HCP.out) ?_)
      |(refine wpList_store (t:=96) (v:=.agg (Part.cells xp)) (off:=0) (new:=Part.cells xp) rfl rfl rfl rfl aggPart.size HX.out rfl (show 0 + 4≤4 by decide) (onesPart xp) rfl ?_;intro Wn hp
        have hbb:=Below.put hba1 hp (Nat.le_of_eq habx)
        replace HP:=nB hbb HP
        replace HI:=nB hbb HI
        replace HR:=nB hbb HR
        replace H7:=nB hbb H7
        replace HO:=ownB hbb HO
        replace HLS:Hid (∀ x ∈ ls,LayAt Wn x.y x.bs x.s.k):=hU (fun x hx=> (HLS.out x hx).below hbb)
        replace HA:=hU (HA.out.below hbb)
        replace HB:=nW hbb HB
        replace HX:=pA hp
        clear hbb hp hba1 HCP)
      |go_values|go_skip|go_guarded|(with_reducible refine wg ?_)|go_step|go_upon)
     refine wp_region_noPanic ?_
     refine go0 (S:=fun W=> W.cell? ⟨b7,8,none⟩=some vs∧W.heap[bx]? =some (.cells (Part.cells xp) 96 (0,0))∧W.heap[w.heap.size]? =some (.cells #[(.slice (some ⟨gp,offp,none⟩) P.ps.length cpp),.int .i64 P.fr,vw,vc] 27 (0,0))) [16] (⟨hcell H7.out 8,HX.out,HP.out⟩) fun hS=> ?_
     obtain ⟨Wd,hWd⟩:=exW Wn.drew
     have hbd:=dW hWd
     replace HP:=nB hbd HP
     replace HI:=nB hbd HI
     replace HR:=nB hbd HR
     replace H7:=nB hbd H7
     replace HX:=nB hbd HX
     replace HO:=ownB hbd HO
     replace HLS:Hid (∀ x ∈ ls,LayAt Wd x.y x.bs x.s.k):=hU (fun x hx=> (HLS.out x hx).below hbd)
     replace HA:=hU (HA.out.below hbd)
     replace HB:=nW hbd HB
     rw [hWd] at hS ⊢
     clear hWd hbd
     refine tp 0 ?_;(try simp only [acts])
     refine tl 1 ?_;(try simp only [acts])
     refine tv 2 (.agg (Part.cells xp)) (fun W hSW=> run_val_load rfl rfl (run_load_whole aggPart hSW.2.1 rfl)) ?_;(try simp only [acts])
     refine tp 3 ?_;(try simp only [acts])
     refine tp 4 ?_;(try simp only [acts])
     refine tv 6 (.agg #[(.slice (some ⟨gp,offp,none⟩) P.ps.length cpp),.int .i64 P.fr,vw,vc]) (fun W hSW=> run_val_load rfl rfl (run_load_whole aggPlan hSW.2.2 rfl)) ?_;(try simp only [acts])
     refine tp 7 ?_;(try simp only [acts])
     refine tv 9 (.agg #[(.slice (some ⟨gp,offp,none⟩) P.ps.length cpp),.int .i64 P.fr,vw,vc]) (fun W hSW=> run_val_load rfl rfl (run_load_whole aggPlan hSW.2.2 rfl)) ?_;(try simp only [acts])
     refine tp 10 ?_;(try simp only [acts])
     refine ro 5 fun K hK=> ?_
     refine want rfl ?_
     go_simp
     obtain ⟨ui,hui,hcall⟩:=HBegin1 (w.heap.size + 1) (.slice ai l.length ci) l i Wd HI.out (HIM.out _ HB.out)
     refine hcall.mono ?_
     rintro er Wx ⟨rfl,rfl⟩
     have HUI:=hU hui
     clear hui hcall
     dsimp only
     refine nx hK hS fun hS=> ?_
     clear hK K
     (try simp only [acts])
     clear hS
     refine ro 8 fun K hK=> ?_
     refine want rfl ?_
     go_simp
     refine (ROuts (.slice (some ⟨gp,offp,none⟩) P.ps.length cpp) vw vc P.fr i (chans P) _ (HPL.out _ HB.out).ch (by unfold chans;rw [List.length_map];omega)).mono ?_
     rintro er Wn ⟨vo,rfl,hvo,hb⟩
     have HVO:=hU (hvo.sl szChan).rd
     replace HP:=nB hb HP
     replace HI:=nB hb HI
     replace HR:=nB hb HR
     replace H7:=nB hb H7
     replace HX:=nB hb HX
     replace HO:=ownB hb HO
     replace HLS:Hid (∀ x ∈ ls,LayAt Wn x.y x.bs x.s.k):=hU (fun x hx=> (HLS.out x hx).below hb)
     replace HA:=hU (HA.out.below hb)
     replace HB:=nW hb HB
     replace HUI:=hU (HUI.out.below hb)
     clear hvo hb
     dsimp only
     refine nx hK (⟨hcell H7.out 8,HX.out,HP.out⟩) fun hS=> ?_
     clear hK K
     (try simp only [acts])
     clear hS
     refine ro 11 fun K hK=> ?_
     refine want rfl ?_
     go_simp
     refine (RIns (.slice (some ⟨gp,offp,none⟩) P.ps.length cpp) vw vc P.fr i (chans P) _ (HPL.out _ HB.out).ch (by unfold chans;rw [List.length_map];omega)).mono ?_
     rintro er Wn ⟨vi,rfl,hvi,hb⟩
     have HVI:=hU (hvi.sl szChan).rd
     replace HVO:=hU (HVO.out.below hb)
     replace HP:=nB hb HP
     replace HI:=nB hb HI
     replace HR:=nB hb HR
     replace H7:=nB hb H7
     replace HX:=nB hb HX
     replace HO:=ownB hb HO
     replace HLS:Hid (∀ x ∈ ls,LayAt Wn x.y x.bs x.s.k):=hU (fun x hx=> (HLS.out x hx).below hb)
     replace HA:=hU (HA.out.below hb)
     replace HB:=nW hb HB
     replace HUI:=hU (HUI.out.below hb)
     clear hvi hb
     dsimp only
     refine nx hK (⟨hcell H7.out 8,HX.out,HP.out⟩) fun hS=> ?_
     clear hK K hS
     (try simp only [acts])
     refine ro 12 fun K hK=> ?_
     refine want rfl ?_
     go_simp
     have hx:=HPO.out i
     rw [HXP.out] at hx
     have hol:(outsOf (chans P) (i:Int)).length≤1000000:=Nat.le_trans (List.length_filter_le _ _) (by unfold chans;rw [List.length_map];omega)
     have hil2:(insOf (chans P) (i:Int)).length≤1000000:=Nat.le_trans (List.length_filter_le _ _) (by unfold chans;rw [List.length_map];omega)
     have hul:(l.getD i []).length≤8796093022207:=by
      rw [List.getD_eq_getElem?_getD]
      cases h:l[i]? with
      |none=> decide
      |some r=> exact HIL.out r (List.mem_of_getElem? h)
     refine (SBegin xp ui vo vi (l.getD i []) (outsOf (chans P) i) (insOf (chans P) i) _ HUI.out HVO.out HVI.out hul hol hil2 hx.m0 hx.m1).mono ?_
     clear hx hol hil2 hul
     rintro er Wn ⟨vA,rfl,⟨yA,bsA,rfl,hl⟩,hb⟩
     have HLA:=hU hl
     clear HUI HVO HVI
     replace HP:=nB hb HP
     replace HI:=nB hb HI
     replace HR:=nB hb HR
     replace H7:=nB hb H7
     replace HX:=nB hb HX
     replace HO:=ownB hb HO
     replace HLS:Hid (∀ x ∈ ls,LayAt Wn x.y x.bs x.s.k):=hU (fun x hx=> (HLS.out x hx).below hb)
     replace HA:=hU (HA.out.below hb)
     replace HB:=nW hb HB
     clear hl hb
     dsimp only
     refine nx hK (⟨hcell H7.out 8,HX.out,HP.out⟩) fun hS=> ?_
     clear hK K hS
     (try simp only [acts])
     obtain ⟨xs,hxs⟩:∃ xs:SB,xs=⟨yA,bsA,sbegin xp (l.getD i []) (outsOf (chans P) i) (insOf (chans P) i)⟩:=⟨_,rfl⟩
     have hxc:SB.cells xs=scells yA (sbegin xp (l.getD i []) (outsOf (chans P) i) (insOf (chans P) i)):=by rw [hxs];rfl
     have hxo:=onesS HLA.out
     replace HLA:Hid (LayAt Wn xs.y xs.bs xs.s.k):=hU (by rw [hxs];exact HLA.out)
     have hss:xs.s=sbegin xp (l.getD i []) (outsOf (chans P) i) (insOf (chans P) i):=by rw [hxs]
     clear hxs
     rw [← hxc] at hxo ⊢
     have HSS:=hU hss
     have HXO:=hU hxo
     clear hxc hxo hss
     refine ro 13 fun K hK=> ?_
     refine want rfl ?_
     refine wp_buildSlice_one (v:=.agg (SB.cells xs)) _ rfl rfl Tryz.underlying30 aggSeat.size zeroSeat rfl (by decide) (by decide) rfl ?_
     simp only [Value.cells]
     obtain ⟨g5,hab,hg5⟩:=nbz HB
     obtain ⟨W1,hW1,hba,H5⟩:=nb1 (W:=Wn) (.cells (SB.cells xs) 72) hab
     rw [hab,hW1]
     clear hab hW1
     have hb:=hba
     replace HP:=nB hb HP
     replace HI:=nB hb HI
     replace HR:=nB hb HR
     replace H7:=nB hb H7
     replace HX:=nB hb HX
     replace HO:=ownB hb HO
     replace HLS:Hid (∀ x ∈ ls,LayAt W1 x.y x.bs x.s.k):=hU (fun x hx=> (HLS.out x hx).below hb)
     replace HA:=hU (HA.out.below hb)
     replace HB:=nW hb HB
     replace HLA:=hU (HLA.out.below hb)
     clear hb hba
     refine nx hK (⟨hcell H7.out 8,HX.out,HP.out⟩) fun hS=> ?_
     clear hK K hS
     (try simp only [acts])
     have hln:ls.length=i:=by
      have:=congrArg List.length HSL.out
      rw [List.length_map] at this
      rw [this]
      show (List.take i _).length=i
      rw [List.length_take,show (mbegin P l).seats.length=P.ps.length by unfold mbegin;simp]
      omega
     obtain ⟨v2,W2,hrun,hv2,hgr⟩:=apRowM (P:=Tryz.prog) (t:=30) (ty:=30) (bytes:=336) szSB (by decide) Tryz.underlying30 (by kernel_rfl) (fun x hx=> by rw [List.mem_singleton] at hx;subst hx;exact HXO.out) HO.out (one_rd H5.out) HB.out.size (by rw [List.length_singleton];unfold maxLen;omega) (by rw [List.length_singleton];omega)
     obtain ⟨htn,hbl⟩:=tn_of HO.out HB.out.size hgr
     have HRUN:=hU hrun
     refine ro 14 fun K hK=> ?_
     refine want rfl ?_
     refine wp_append_run _ _ _ _ rfl _ _ rfl rfl _ _ HRUN.out ?_
     replace HO:Hid (KR.Own 72 19 SB.cells w.heap.size W2 v2 (ls ++ [xs])):=hU hv2
     replace HP:=tnB htn HP
     replace HI:=tnB htn HI
     replace HR:=tnB htn HR
     replace H7:=tnB htn H7
     replace HX:=tnB htn HX
     replace HLS:Hid (∀ x ∈ ls ++ [xs],LayAt W2 x.y x.bs x.s.k):=hU (fun x hx=> by
      rcases List.mem_append.1 hx with hx|hx
      · exact (tnL htn (hU (HLS.out x hx))).out
      · rw [List.mem_singleton] at hx
        subst hx
        exact (tnL htn HLA).out)
     replace HA:=hU (tnA htn HA.out (by decide) (by decide))
     replace HB:Hid (Below w.heap.size w W2):=hU (HB.out.trans hbl)
     clear hrun hv2 hgr htn hbl HRUN HLA H5
     refine nx hK (⟨hcell H7.out 8,HX.out,HP.out⟩) fun hS=> ?_
     clear hK K
     (try simp only [acts])
     refine tp 15 ?_;(try simp only [acts])
     clear hS
     have hvs:=HO.out.sl szSB
     refine ro 16 fun K hK=> ?_
     refine want rfl ?_
     refine wp_store1 (v:=v2) (off:=8) (new:=ycells ⟨(.slice (some ⟨gp,offp,none⟩) P.ps.length cpp),vw,vc,(.slice ai l.length ci),v2,va,[],[]⟩ (mpart P l (i + 1))) rfl rfl rfl oneSeats H7.out hvs.vcells hvs.vone (show 8 + 1≤11 by decide) rfl ?_
     intro Wn hp
     have hB:=Below.put HB.out hp (by omega)
     have hsz7:=hlt H7.out
     replace HP:=pO hp HP
     replace HI:=pO hp HI
     replace HR:=pO hp HR
     replace HO:Hid (KR.Own 72 19 SB.cells w.heap.size Wn v2 (ls ++ [xs])):=hU (ownT HO.out H7.out hp (by decide))
     replace HLS:Hid (∀ x ∈ ls ++ [xs],LayAt Wn x.y x.bs x.s.k):=hU (fun x hx=> (HLS.out x hx).put H7.out noSys hp)
     replace HA:Hid (ArrAt Wn va (List.replicate P.ps.length ⟨.slice none 0 0,[]⟩)):=hU ⟨HA.out.1.put H7.out hp (by decide),fun x hx=> (HA.out.2 x hx).put H7.out hp (by decide)⟩
     replace H7:=pA hp
     replace HB:=hU hB
     clear hB hp hvs
     refine nt hK ?_
     clear hK K
     (try simp only [acts])
     refine doneL (by kernel_rfl) (NoPanic.normal ?_) _
     have HSN:Hid ((ls ++ [xs]).map (·.s)=(mpart P l (i + 1)).seats):=hU (by
      rw [List.map_append,HSL.out,mseats_at (by omega),HXP.out,List.map_singleton,HSS.out])
     clear HSL HSS HX HXO
     repeat' (first|go_values|go_skip|go_guarded|(with_reducible refine wg ?_)|go_step|go_upon)
     exact ⟨⟨i + 1,v2,ls ++ [xs],by omega,by go_num,HP,HI,HR,H7,HO,HLS,HSN,HA,HB⟩,by simp [intOf];omega⟩
   · obtain rfl:i=P.ps.length:=by omega
     have e1:decide ((P.ps.length:Int)<(P.ps.length:Int))=false:=by simp
     have HSY:Hid (∀ W,Below Wn.heap.size Wn W→(∀ x ∈ ls,LayAt W x.y x.bs x.s.k)):=hU (fun W hb x hx=> (HLS.out x hx).below hb)
     repeat' (first
      |(refine wpList_load (t:=33) (v:=.agg (ycells ⟨(.slice (some ⟨gp,offp,none⟩) P.ps.length cpp),vw,vc,(.slice ai l.length ci),vs,va,[],[]⟩ (mpart P l P.ps.length))) rfl rfl rfl (run_load_whole aggSys H7.out rfl) ?_)
      |(refine wpList_store (t:=33) (v:=.agg (ycells ⟨(.slice (some ⟨gp,offp,none⟩) P.ps.length cpp),vw,vc,(.slice ai l.length ci),vs,va,[],[]⟩ (mpart P l P.ps.length))) (off:=0) (new:=ycells ⟨(.slice (some ⟨gp,offp,none⟩) P.ps.length cpp),vw,vc,(.slice ai l.length ci),vs,va,[],[]⟩ (mpart P l P.ps.length)) rfl rfl rfl rfl aggSys.size HR.out rfl (show 0 + 11≤11 by decide) (HON.out _ _ (HO.out.sl szSB).vone) rfl ?_;intro Wn hp
        have hB:=Below.put HB.out hp (by omega)
        replace HO:Hid (KR.Sl 72 19 SB.cells Wn vs ls):=hU ((HO.out.sl szSB).put HR.out hp (by decide))
        replace HLS:Hid (∀ x ∈ ls,LayAt Wn x.y x.bs x.s.k):=hU (fun x hx=> (HLS.out x hx).put HR.out noSys hp)
        replace HA:Hid (ArrAt Wn va (List.replicate P.ps.length ⟨.slice none 0 0,[]⟩)):=hU ⟨HA.out.1.put HR.out hp (by decide),fun x hx=> (HA.out.2 x hx).put HR.out hp (by decide)⟩
        replace HR:=pA hp
        replace HB:=hU hB
        clear hB hp)
      |go_values|go_skip|go_guarded|(with_reducible refine wg ?_)|go_step|go_upon)
     (try simp only [Exit.inBlock,Exit.then]);refine bodyPost_ret (res_cell_tmp Tryz.results11 aggSys rfl HR.out rfl) rfl ?_
     have hm:mpart P l P.ps.length=mbegin P l:=mpart_all P l
     rw [hm] at HSL ⊢
     refine .inr ⟨HCK.out,⟨(.slice (some ⟨gp,offp,none⟩) P.ps.length cpp),vw,vc,(.slice ai l.length ci),vs,va,ls,List.replicate P.ps.length ⟨.slice none 0 0,[]⟩⟩,rfl,⟨HPL.out _ HB.out,rfl,⟨HO.out,HLS.out⟩,HSL.out,HA.out,?_⟩,⟨rfl,rfl,rfl,rfl⟩,HB.out⟩
     rw [List.map_replicate]
     rfl
end Hy
end Go.Proofs.YthgehdghihbiaaaGreatDoor
