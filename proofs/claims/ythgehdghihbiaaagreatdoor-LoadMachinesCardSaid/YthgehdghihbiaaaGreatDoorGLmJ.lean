/- The reference's beginning of a seat and of a machine. Conditions: a plan as it lies, images as a call made them; few. The reference's machine out of bytes, or why there is none. Conditions: texts no longer than Go can hold. -/
import Derived.Test.YthgehdghihbiaaaGreatDoorLmRefI
import Derived.Test.YthgehdghihbiaaaGreatDoorGLmP
import Derived.Test.YthgehdghihbiaaaGreatDoorGLmR
import Derived.Test.YthgehdghihbiaaaGreatDoorPlanRefTake
import Derived.Test.YthgehdghihbiaaaGreatDoorGLmU
set_option linter.unusedVariables false
set_option maxRecDepth 100000
set_option maxHeartbeats 8000000
set_option linter.unusedSimpArgs false
namespace Go.Proofs.YthgehdghihbiaaaGreatDoor
open Go.RowKit KR Kn RegT3
namespace Rf
theorem RBeg (x:Part) (iv ov nv:Value) (images:List ByteArray) (outs ins_:List Chan) (w:World) (hi:SlStr w iv images) (ho:SlCh w ov outs) (hn:SlCh w nv ins_) (h3:ins_.length≤1000000) (m1:x.mem≤9223372036854775807):
 Calls Tryz.prog 39 #[.agg x.cells,iv,ov,nv] w (GivesS (sbegin x images outs ins_) w):=by
 obtain ⟨q0,q1⟩:=two_new w w.heap.size (.cells x.cells 96) (.cells #[.slice none 0 0,.slice none 0 0,.int .i64 0,.slice none 0 0,.slice none 0 0,.int .i64 0,.slice none 0 0,.int .u64 0,.slice none 0 0,.slice none 0 0,.slice none 0 0,.slice none 0 0,.string ⟨#[]⟩,.slice none 0 0,.slice none 0 0,.int .i64 0,.int .i64 0,.int .i64 0,.int .i64 0] 72) rfl
 have hb0:Below w.heap.size w ((w.alloc (.cells x.cells 96)).alloc (.cells #[.slice none 0 0,.slice none 0 0,.int .i64 0,.slice none 0 0,.slice none 0 0,.int .i64 0,.slice none 0 0,.int .u64 0,.slice none 0 0,.slice none 0 0,.slice none 0 0,.slice none 0 0,.string ⟨#[]⟩,.slice none 0 0,.slice none 0 0,.int .i64 0,.int .i64 0,.int .i64 0,.int .i64 0] 72)):=bel
 have hi0:=hi.below hb0
 have ho0:=ho.below hb0
 have hn0:=hn.below hb0
 obtain ⟨W0,hW0⟩:=exW ((w.alloc (.cells x.cells 96)).alloc (.cells #[.slice none 0 0,.slice none 0 0,.int .i64 0,.slice none 0 0,.slice none 0 0,.int .i64 0,.slice none 0 0,.int .u64 0,.slice none 0 0,.slice none 0 0,.slice none 0 0,.slice none 0 0,.string ⟨#[]⟩,.slice none 0 0,.slice none 0 0,.int .i64 0,.int .i64 0,.int .i64 0,.int .i64 0] 72))
 rw [hW0] at q0 q1 hb0 hi0 ho0 hn0
 have HA:=hU q0
 have HR:=hU q1
 have HB:=hU hb0
 have HBT:=hU (RBoot x.mem iv ov nv images outs ins_ 0 W0 hi0 ho0 hn0 h3 m1)
 have f0:W0.cell? ⟨w.heap.size,0,none⟩=some (.int .i64 x.mem):=hcell HA.out 0
 clear q0 q1 hb0 hi0 ho0 hn0 hi ho hn
 go_enter Tryz.func39,Tryz.ntmps39
 repeat' (first|(rw [hW0];clear hW0)|go_values|go_skip|go_guarded|(with_reducible refine wg ?_)|go_step|go_upon)
 refine HBT.out.mono ?_
 rintro er Wn ⟨v1,rfl,⟨y1,bs1,rfl,hl1⟩,hb⟩
 obtain ⟨k1,hk1⟩:∃ k1,k1=boot x.mem images outs ins_ 0:=⟨_,rfl⟩
 rw [← hk1] at hl1 ⊢
 have hg:k1.gone=0∨k1.gone=1:=by rw [hk1];exact boot_g _ _ _ _ _
 have hin:k1.ins_.length≤1000000:=by rw [hk1,(boot_frame x.mem images outs ins_ 0).2.2.1];exact h3
 have hsb:sbegin x images outs ins_=slooks x ⟨k1,1,1⟩:=by rw [hk1];rfl
 replace HA:=nB hb HA
 replace HR:=nB hb HR
 replace HB:=nW hb HB
 have HL1:=hU hl1
 have HG:=hU hg
 have HIN:=hU hin
 have HSB:=hU hsb
 clear hb hl1 hk1 f0 hg hin hsb HBT
 dsimp only
 obtain ⟨b6,hab,hbz⟩:=nbz HB
 have hb6:=nlt HR hab
 obtain ⟨Wa,hWa,hba,HZ⟩:=nb1 (W:=Wn) (.cells #[.slice none 0 0,.slice none 0 0,.int .i64 0,.slice none 0 0,.slice none 0 0,.int .i64 0,.slice none 0 0,.int .u64 0,.slice none 0 0,.slice none 0 0,.slice none 0 0,.slice none 0 0,.string ⟨#[]⟩,.slice none 0 0,.slice none 0 0,.int .i64 0,.int .i64 0] 70) hab
 replace HA:=nB hba HA
 replace HR:=nB hba HR
 replace HL1:=nL hba HL1
 replace HB:=nW hba HB
 clear hba
 repeat' (first
  |(rw [hWa,hab];clear hWa hab)
  |(refine wpList_store (t:=70) (v:=.agg (kcells y1 k1)) (off:=0) (new:=#[y1.p,y1.t,.int .i64 k1.t.left,y1.s,y1.pi,.int .i64 k1.hs,y1.h,.int .u64 k1.now,y1.im,y1.ou,y1.ins_,y1.bx,.string k1.cons,y1.tr,y1.se,.int .i64 k1.want,.int .i64 k1.gone]) rfl rfl rfl rfl aggKern.size HZ.out rfl (show 0 + 17≤17 by decide) (onesK HL1.out) rfl ?_;intro Wn hp;replace HL1:=pL hp HZ HL1;replace HA:=pO hp HA;replace HR:=pO hp HR;replace HB:=hU (Below.put HB.out hp (by omega));have HK:=pA hp;clear hp HZ)
  |(refine wpList_load (t:=96) (v:=.agg x.cells) rfl rfl rfl (run_load_whole aggPart HA.out rfl) ?_)
  |(refine wpList_load (t:=70) (v:=.agg #[y1.p,y1.t,.int .i64 k1.t.left,y1.s,y1.pi,.int .i64 k1.hs,y1.h,.int .u64 k1.now,y1.im,y1.ou,y1.ins_,y1.bx,.string k1.cons,y1.tr,y1.se,.int .i64 k1.want,.int .i64 k1.gone]) rfl rfl rfl (run_load_whole aggKern HK.out rfl) ?_)
  |go_values|go_skip|go_guarded|(with_reducible refine wg ?_)|go_step|go_upon)
 refine (Rlooks x y1 bs1 k1 _ HL1.out HG.out HIN.out m1).mono ?_
 rintro er Wn ⟨v2,rfl,⟨y2,bs2,rfl,hl2⟩,hb⟩
 rw [← HSB.out] at hl2 ⊢
 replace HR:=nB hb HR
 replace HB:=nW hb HB
 have HL2:=hU hl2
 clear hb hl2 HA HK HL1
 dsimp only
 repeat' (first
  |(refine wpList_store (t:=72) (v:=.agg (scells y2 (sbegin x images outs ins_))) (off:=0) (new:=scells y2 (sbegin x images outs ins_)) rfl rfl rfl rfl aggSeat.size HR.out rfl (show 0 + 19≤19 by decide) (onesS HL2.out) rfl ?_;intro Wn hp;replace HL2:=pL hp HR HL2;replace HB:=hU (Below.put HB.out hp (by omega));replace HR:=pA hp;clear hp)
  |go_values|go_skip|go_guarded|(with_reducible refine wg ?_)|go_step|go_upon)
 (try simp only [Exit.inBlock,Exit.then]);refine bodyPost_ret (res_cell Tryz.results39 aggSeat rfl HR.out rfl) rfl ?_
 exact ⟨_,rfl,⟨_,bs2,rfl,HL2.out⟩,HB.out⟩
def ImgS (W:World) (v:Value) (l:List (List ByteArray)):Prop:=
 ∃ a c,v=.slice a l.length c∧(l=[]∨∃ b off,a=some ⟨b,off,none⟩∧b<W.heap.size∧∀ i r,l[i]? =some r→∃ u,W.cell? ⟨b,off + i,none⟩=some u∧SlStr W u r)
theorem ImgS.below {W W':World} {v:Value} {l:List (List ByteArray)} (h:ImgS W v l) (hb:Below W.heap.size W W'):ImgS W' v l:=by
 obtain ⟨a,c,rfl,h|⟨b,off,rfl,hl,hc⟩⟩:=h
 · exact ⟨a,c,rfl,.inl h⟩
 · refine ⟨_,c,rfl,.inr ⟨b,off,rfl,Nat.lt_of_lt_of_le hl hb.size,fun i r hr=> ?_⟩⟩
   obtain ⟨u,hu,hr⟩:=hc i r hr
   exact ⟨u,(hb.cell (p:=⟨b,_,none⟩) hl).trans hu,hr.below hb⟩
theorem flat_str:∀ r:List ByteArray,flat strCells r=r.map Value.string
 |[]=> rfl
 |x::r=> by
  have ih:=flat_str r
  show (strCells x).toList ++ flat strCells r=_
  rw [ih]
  rfl
theorem row_sl {W:World} {v:Value} {r:List ByteArray} (h:Unp.RowAt W v r):SlStr W v r:=by
 obtain ⟨⟨B,h⟩,_⟩:=h
 have hO:KR.Own 9 1 strCells B W v r:=by
  unfold KR.Own
  rw [flat_str]
  exact h
 exact hO.sl szStr
theorem imgS_of {W:World} {v:Value} {l:List (List ByteArray)} (h:Unp.ImgO W v l):ImgS W v l:=by
 obtain ⟨B,rs,rfl,hn,ho,hr,_⟩:=h
 obtain ⟨a,c,rfl,hl,h0⟩:=Unp.cells_of ho .nilIface
 refine ⟨a,c,by rw [List.length_map],?_⟩
 rcases h0 with h0|⟨b,rfl,hb,hc⟩
 · exact .inl (by rw [List.length_eq_zero_iff.mp h0];rfl)
 · refine .inr ⟨b,0,rfl,hb,fun i r hi=> ?_⟩
   rw [List.getElem?_map] at hi
   obtain ⟨x,hx,rfl⟩:=Option.map_eq_some_iff.1 hi
   obtain ⟨hlt,rfl⟩:=List.getElem?_eq_some_iff.1 hx
   refine ⟨_,by rw [Nat.zero_add];exact hc i hlt,?_⟩
   have e1:(rs.map (·.1)).getD i .nilIface=rs[i].1:=by simp [List.getD_eq_getElem?_getD,List.getElem?_map,List.getElem?_eq_getElem hlt]
   rw [e1]
   exact row_sl (hr _ (List.getElem_mem hlt))
theorem one_rd {α:Type} {T:TypeId} {sz:Nat} {f:α→Array Value} {W:World} {n:Nat} {x:α} (h:W.heap[n]? =some (.cells (f x) T (0,0))):Rd sz f W (.slice (some ⟨n,0,none⟩) 1 1) [x]:=
 ⟨_,1,rfl,Nat.le_refl _,by decide,.inr ⟨n,0,rfl,hlt h,fun i y hy j u hj=> by
   obtain rfl:i=0:=by
    rcases i with _|i
    · rfl
    · simp at hy
   obtain rfl:x=y:=by simpa using hy
   rw [show 0 + 0 * sz + j=j by rw [Nat.zero_mul];omega]
   exact (hcell h j).trans hj⟩⟩
theorem ownTo {α:Type} {E T:TypeId} {sz B b:Nat} {f:α→Array Value} {c cs:Array Value} {W W':World} {v:Value} {l:List α} (h:KR.Own E sz f B W v l) (hb:W.heap[b]? =some (.cells c T (0,0))) (hp:Put b cs T W W') (hT:E ≠ T):KR.Own E sz f B W' v l:=
 ⟨h.1,by
   rcases h.2 with h2|⟨g,cap,cur,rfl,h1,h2,h3⟩
   · exact .inl h2
   · exact .inr ⟨g,cap,cur,rfl,h1,(hp.oth g (ne_of_types h2 hb hT)).trans h2,h3⟩⟩
theorem ownTn {α:Type} {E E':TypeId} {sz B:Nat} {f:α→Array Value} {W W':World} {v:Value} {l:List α} (ht:Tn E' W W') (h:KR.Own E sz f B W v l) (hT:E ≠ E'):KR.Own E sz f B W' v l:=
 ⟨h.1,by
   rcases h.2 with h2|⟨g,cap,cur,rfl,h1,h2,h3⟩
   · exact .inl h2
   · exact .inr ⟨g,cap,cur,rfl,h1,(ht.oth g _ _ (Ne.symm hT) h2).trans h2,h3⟩⟩
theorem zeroSeat:∀ W,(zeroValue 72).run Tryz.prog W=.ok (.agg #[.slice none 0 0,.slice none 0 0,.int .i64 0,.slice none 0 0,.slice none 0 0,.int .i64 0,.slice none 0 0,.int .u64 0,.slice none 0 0,.slice none 0 0,.slice none 0 0,.slice none 0 0,.string ⟨#[]⟩,.slice none 0 0,.slice none 0 0,.int .i64 0,.int .i64 0,.int .i64 0,.int .i64 0]) W:=zero_of (by kernel_rfl)
theorem zeroSts:∀ W,(zeroValue 74).run Tryz.prog W=.ok (.slice none 0 0) W:=zero_of (by kernel_rfl)
theorem oneSeats:One Tryz.prog 30:=one_of Tryz.underlying30 rfl (by kernel_rfl)
theorem oneRows:One Tryz.prog 31:=one_of Tryz.underlying31 rfl (by kernel_rfl)
theorem oneSts:One Tryz.prog 74:=one_of Tryz.underlying74 rfl (by kernel_rfl)
def BgR (w:World) (gp offp cpp:Nat) (vw vc:Value) (gi offi ci:Nat) (P:Pl.Plan) (l:List (List ByteArray)) (b7:Nat) (iv:Value) (W:World):Prop:=
 ∃ (i:Nat) (vs:Value) (ls:List Hy.SB) (aa:Option Addr) (ca:Nat),i≤P.ps.length∧iv=.int .i64 i∧Hid (W.heap[w.heap.size]? =some (.cells #[(.slice (some ⟨gp,offp,none⟩) P.ps.length cpp),.int .i64 P.fr,vw,vc] 27 (0,0)))∧
   Hid (W.heap[w.heap.size + 1]? =some (.cells #[.slice none 0 0,.int .i64 0,.slice none 0 0,.slice none 0 0,.slice none 0 0,.int .u64 0,.int .i64 0,.int .i64 0,.slice none 0 0,.slice none 0 0,.int .i64 0] 33 (0,0)))∧Hid (W.heap[b7]? =some (.cells (Hy.ycells ⟨(.slice (some ⟨gp,offp,none⟩) P.ps.length cpp),vw,vc,(.slice (some ⟨gi,offi,none⟩) P.ps.length ci),vs,(.slice aa i ca),[],[]⟩ (Hy.mpart P l i)) 33 (0,0)))∧
   Hid (KR.Own 72 19 Hy.SB.cells w.heap.size W vs ls)∧Hid (∀ x ∈ ls,LayAt W x.y x.bs x.s.k)∧Hid (ls.map (·.s)=(Hy.mpart P l i).seats)∧Hid (KR.Own 74 1 Hy.AB.cells w.heap.size W (.slice aa i ca) (List.replicate i ⟨.slice none 0 0,[]⟩))∧Hid (Below w.heap.size w W)
theorem RBegin (vp vw vc im:Value) (P:Pl.Plan) (l:List (List ByteArray)) (w:World) (h:Hy.PlanR w vp vw vc P) (hck:Pl.check P=0) (him:ImgS w im l) (hlen:l.length=P.ps.length):
 Calls Tryz.prog 14 #[.agg (Hy.pcells vp vw vc P.fr),im] w (Hy.GivesB vp vw vc im P l w):=by
 have hn0:1≤P.ps.length:=(Pl.check_zero hck).1
 have hps:P.ps.length≤4:=(Pl.check_zero hck).2.1
 have hcs:P.cs.length≤6:=(Pl.check_zero hck).2.2.2.2.1
 obtain ⟨ap,cpp,hvp,_,_⟩:=h.pa.shape
 rw [show (Hy.parts P).length=P.ps.length from List.length_map _] at hvp
 subst hvp
 obtain ⟨gp,offp,hga⟩:∃ gp offp,ap=some ⟨gp,offp,none⟩:=by
  obtain ⟨_,_,he,_,_,hh⟩:=h.pa
  injection he with he1 _ _
  rcases hh with hh|⟨gp,offp,hga,_⟩
  · have h1:(Hy.parts P).length=0:=by rw [hh];rfl
    rw [show (Hy.parts P).length=P.ps.length from List.length_map _] at h1
    omega
  · exact ⟨gp,offp,he1.trans hga⟩
 subst hga
 obtain ⟨ai,ci,hiv,hi0⟩:=id him
 obtain ⟨gi,offi,hai⟩:∃ gi offi,ai=some ⟨gi,offi,none⟩:=by
  rcases hi0 with rfl|⟨gi,offi,hai,_⟩
  · rw [show ([]:List (List ByteArray)).length=0 from rfl] at hlen
    omega
  · exact ⟨gi,offi,hai⟩
 subst hai
 rw [hlen] at hiv
 subst hiv
 obtain ⟨q0,q1⟩:=two_new w w.heap.size (.cells #[(.slice (some ⟨gp,offp,none⟩) P.ps.length cpp),.int .i64 P.fr,vw,vc] 27) (.cells #[.slice none 0 0,.int .i64 0,.slice none 0 0,.slice none 0 0,.slice none 0 0,.int .u64 0,.int .i64 0,.int .i64 0,.slice none 0 0,.slice none 0 0,.int .i64 0] 33) rfl
 have hb0:Below w.heap.size w ((w.alloc (.cells #[(.slice (some ⟨gp,offp,none⟩) P.ps.length cpp),.int .i64 P.fr,vw,vc] 27)).alloc (.cells #[.slice none 0 0,.int .i64 0,.slice none 0 0,.slice none 0 0,.slice none 0 0,.int .u64 0,.int .i64 0,.int .i64 0,.slice none 0 0,.slice none 0 0,.int .i64 0] 33)):=bel
 obtain ⟨W0,hW0⟩:=exW ((w.alloc (.cells #[(.slice (some ⟨gp,offp,none⟩) P.ps.length cpp),.int .i64 P.fr,vw,vc] 27)).alloc (.cells #[.slice none 0 0,.int .i64 0,.slice none 0 0,.slice none 0 0,.slice none 0 0,.int .u64 0,.int .i64 0,.int .i64 0,.slice none 0 0,.slice none 0 0,.int .i64 0] 33))
 rw [hW0] at q0 q1 hb0
 have HP:=hU q0
 have HR:=hU q1
 have HB:=hU hb0
 have HCK:=hU hck
 have HPL:=hU (fun W (hb:Below w.heap.size w W)=> h.below hb)
 have HIM:=hU (fun (i:Nat) (W:World) (hi:i<P.ps.length) (hb:Below w.heap.size w W)=> show ∃ u,W.cell? ⟨gi,offi + i,none⟩=some u∧SlStr W u (l.getD i []) by
  obtain ⟨_,_,he,hh⟩:=him.below hb
  rcases hh with rfl|⟨gi2,offi2,he2,_,hh⟩
  · rw [show ([]:List (List ByteArray)).length=0 from rfl] at hlen
    omega
  · injection he with he _ _
    rw [he2] at he
    injection he with he
    injection he with hg1 hg2 _
    subst hg1 hg2
    obtain ⟨u,hu,hr⟩:=hh i (l[i]'(by omega)) (List.getElem?_eq_getElem (by omega))
    exact ⟨u,hu,by rw [List.getD_eq_getElem?_getD,List.getElem?_eq_getElem (by omega)];exact hr⟩)
 have HPO:=hU (fun i=> Hy.part_ok hck i)
 have hc0:(Hy.chans P).length≤1000000:=by unfold Hy.chans;rw [List.length_map];omega
 have HCL:=hU hc0
 obtain ⟨h1,h2,h3⟩:=Hy.onesPl h
 have HON:Hid (∀ (vs va:Value) (i:Nat),vs.oneCell'=true→va.oneCell'=true→∀ u ∈ (Value.agg (Hy.ycells ⟨(.slice (some ⟨gp,offp,none⟩) P.ps.length cpp),vw,vc,(.slice (some ⟨gi,offi,none⟩) P.ps.length ci),vs,va,[],[]⟩ (Hy.mpart P l i))).cells.toList,u.oneCell'=true):=hU (fun vs va i hv hv2 u hu=> by
  simp only [Value.cells,Hy.ycells,List.mem_cons,List.not_mem_nil,or_false] at hu
  rcases hu with rfl|rfl|rfl|rfl|rfl|rfl|rfl|rfl|rfl|rfl|rfl <;> first|rfl|assumption)
 clear q0 q1 hb0 h him hck hi0 h1 h2 h3 hc0 hlen
 show Calls Tryz.prog 14 #[.agg #[(.slice (some ⟨gp,offp,none⟩) P.ps.length cpp),.int .i64 P.fr,vw,vc],(.slice (some ⟨gi,offi,none⟩) P.ps.length ci)] w _
 go_enter Tryz.func14,Tryz.ntmps14
 repeat' (first
  |(rw [hW0];clear hW0)
  |(refine wpList_load (t:=27) (v:=.agg #[(.slice (some ⟨gp,offp,none⟩) P.ps.length cpp),.int .i64 P.fr,vw,vc]) rfl rfl rfl (run_load_whole Hy.aggPlan HP.out rfl) ?_)
  |go_values|go_skip|go_guarded|(with_reducible refine wg ?_)|go_step|go_upon)
 refine (RfO.CheckOk _ P _ (HPL.out _ HB.out).pl HCK.out).mono ?_
 rintro er Wn ⟨rfl,hb⟩
 replace HP:=nB hb HP
 replace HR:=nB hb HR
 replace HB:=nW hb HB
 clear hb
 dsimp only
 have HP0:=HP
 obtain ⟨b7,hab,hbz⟩:=nbz HB
 have hb7:=nlt HR hab
 obtain ⟨Wa,hWa,hba,H7⟩:=nb1 (W:=Wn) (.cells #[.slice none 0 0,.int .i64 0,.slice none 0 0,.slice none 0 0,.slice none 0 0,.int .u64 0,.int .i64 0,.int .i64 0,.slice none 0 0,.slice none 0 0,.int .i64 0] 33) hab
 replace HP:=nB hba HP
 replace HR:=nB hba HR
 replace HB:=nW hba HB
 clear hba
 have e0:((0:Int) !=0)=false:=by decide
 repeat' (first
  |(rw [hWa,hab];clear hWa hab)
  |(refine wpList_load (t:=27) (v:=.agg #[(.slice (some ⟨gp,offp,none⟩) P.ps.length cpp),.int .i64 P.fr,vw,vc]) rfl rfl rfl (run_load_whole Hy.aggPlan HP0.out rfl) ?_;clear HP0)
  |(refine wpList_store (t:=33) (v:=.agg (Hy.ycells ⟨(.slice (some ⟨gp,offp,none⟩) P.ps.length cpp),vw,vc,(.slice (some ⟨gi,offi,none⟩) P.ps.length ci),.slice none 0 0,.slice none 0 0,[],[]⟩ (Hy.mpart P l 0))) (off:=0) (new:=(Hy.ycells ⟨(.slice (some ⟨gp,offp,none⟩) P.ps.length cpp),vw,vc,(.slice (some ⟨gi,offi,none⟩) P.ps.length ci),.slice none 0 0,.slice none 0 0,[],[]⟩ (Hy.mpart P l 0))) rfl rfl rfl rfl Hy.aggSys.size H7.out rfl (show 0 + 11≤11 by decide) (HON.out _ _ _ rfl rfl) rfl ?_;intro Wn hp;replace HP:=pO hp HP;replace HR:=pO hp HR;replace HB:=hU (Below.put HB.out hp (by omega));have H8:=pA hp;clear hp H7)
  |go_values|go_skip|go_guarded|(with_reducible refine wg ?_)|go_step|go_upon)
 go_loopw [8] (fun iv wr=> BgR w gp offp cpp vw vc gi offi ci P l b7 iv wr) (fun iv _=> P.ps.length - (intOf iv).toNat)
 case atStart=> exact ⟨0,.slice none 0 0,[],none,0,Nat.zero_le _,rfl,HP,HR,H8,hU (KR.Own.nil _ _ _ _ _),hU (fun x hx=> nomatch hx),hU rfl,hU (KR.Own.nil _ _ _ _ _),HB⟩
 case round=>
  clear HP HR H8 HB
  obtain ⟨i,vs,ls,aa,ca,hile,rfl,HP,HR,H7,HO,HLS,HSL,HA,HB⟩:=hrel
  obtain ⟨Wn,rfl⟩:∃ Wn,Wn=wr:=⟨_,rfl⟩
  by_cases hil:i<P.ps.length
  · have e1:decide ((i:Int)<(P.ps.length:Int))=true:=by simp;omega
    have e2:decide (i<P.ps.length)=true:=by simp;omega
    have i0:(0:Int)≤(i:Int):=by omega
    have i1:(i:Int)<(P.ps.length:Int):=by omega
    have hpa:=Hy.parts_at (P:=P) (who:=i) (by omega)
    obtain ⟨xp,hxp⟩:∃ xp,Hy.partOf (P.ps.getD i [])=xp:=⟨_,rfl⟩
    rw [hxp] at hpa
    obtain ⟨gp2,offp2,hgap,hglp,hcellp⟩:=(HPL.out w (Below.refl _ _)).pa.elem.2.2.2 i xp hpa
    injection hgap with hgap
    injection hgap with hg1 hg2 _
    subst hg1 hg2
    have HCP:=hU hcellp
    have HXP:=hU hxp
    clear hcellp hglp hpa hxp
    obtain ⟨ui,hui,hus⟩:=HIM.out i Wn hil HB.out
    have HUI:=hU hus
    clear hus
    have f0:Wn.cell? ⟨w.heap.size,0,none⟩=some (.slice (some ⟨gp,offp,none⟩) P.ps.length cpp):=hcell HP.out 0
    repeat' (first|go_values|go_skip|go_guarded|(with_reducible refine wg ?_)|go_step|go_upon)
    clear hui f0
    refine wp_region_noPanic ?_
    refine go0 (S:=fun W=> W.cell? ⟨b7,8,none⟩=some vs∧W.cell? ⟨w.heap.size,0,none⟩=some (.slice (some ⟨gp,offp,none⟩) P.ps.length cpp)∧W.heap[w.heap.size]? =some (.cells #[(.slice (some ⟨gp,offp,none⟩) P.ps.length cpp),.int .i64 P.fr,vw,vc] 27 (0,0))∧(∀ j u,(Part.cells xp)[j]? =some u→W.cell? ⟨gp,offp + i * 4 + j,none⟩=some u)) [18] (⟨hcell H7.out 8,hcell HP.out 0,HP.out,HCP.out _ HB.out.drew⟩) fun hS=> ?_
    obtain ⟨Wd,hWd⟩:=exW Wn.drew
    have hbd:=dW hWd
    replace HP:=nB hbd HP
    replace HR:=nB hbd HR
    replace H7:=nB hbd H7
    replace HO:=ownB hbd HO
    replace HA:=ownB hbd HA
    replace HLS:Hid (∀ x ∈ ls,LayAt Wd x.y x.bs x.s.k):=hU (fun x hx=> (HLS.out x hx).below hbd)
    replace HB:=nW hbd HB
    replace HUI:=hU (HUI.out.below hbd)
    rw [hWd] at hS ⊢
    clear hWd hbd
    refine tp 0 ?_;(try simp only [acts])
    refine tl 1 ?_;(try simp only [acts])
    refine tp 2 ?_;(try simp only [acts])
    refine tl 3 ?_;(try simp only [acts])
    refine tp 4 ?_;(try simp only [acts])
    refine tp 5 ?_;(try simp only [acts])
    refine tv 6 (.agg (Part.cells xp)) (fun W hSW=> run_val_load rfl rfl (run_load_arr aggPart rfl hSW.2.2.2)) ?_;(try simp only [acts])
    refine tp 7 ?_;(try simp only [acts])
    refine tv 8 (.agg #[(.slice (some ⟨gp,offp,none⟩) P.ps.length cpp),.int .i64 P.fr,vw,vc]) (fun W hSW=> run_val_load rfl rfl (run_load_whole Hy.aggPlan hSW.2.2.1 rfl)) ?_;(try simp only [acts])
    refine tp 9 ?_;(try simp only [acts])
    refine tv 11 (.agg #[(.slice (some ⟨gp,offp,none⟩) P.ps.length cpp),.int .i64 P.fr,vw,vc]) (fun W hSW=> run_val_load rfl rfl (run_load_whole Hy.aggPlan hSW.2.2.1 rfl)) ?_;(try simp only [acts])
    refine tp 12 ?_;(try simp only [acts])
    have hx:=HPO.out i
    rw [HXP.out] at hx
    have HX:=hU hx
    clear hS hx
    refine ro 10 fun K hK=> ?_
    refine want rfl ?_
    go_simp
    refine (Hy.R15Outs (.slice (some ⟨gp,offp,none⟩) P.ps.length cpp) vw vc P.fr i (Hy.chans P) _ (HPL.out _ HB.out).ch HCL.out).mono ?_
    rintro er Wn ⟨vo,rfl,hvo,hb⟩
    have HVO:=hU hvo
    replace HP:=nB hb HP
    replace HR:=nB hb HR
    replace H7:=nB hb H7
    replace HO:=ownB hb HO
    replace HA:=ownB hb HA
    replace HLS:Hid (∀ x ∈ ls,LayAt Wn x.y x.bs x.s.k):=hU (fun x hx=> (HLS.out x hx).below hb)
    replace HB:=nW hb HB
    replace HUI:=hU (HUI.out.below hb)
    clear hvo hb
    dsimp only
    refine nx hK (⟨hcell H7.out 8,hcell HP.out 0,HP.out,HCP.out _ HB.out⟩) fun hS=> ?_
    clear hK K hS
    (try simp only [acts])
    refine ro 13 fun K hK=> ?_
    refine want rfl ?_
    go_simp
    refine (Hy.R15Ins (.slice (some ⟨gp,offp,none⟩) P.ps.length cpp) vw vc P.fr i (Hy.chans P) _ (HPL.out _ HB.out).ch HCL.out).mono ?_
    rintro er Wn ⟨vi,rfl,hvi,hb⟩
    have HVI:=hU hvi
    replace HP:=nB hb HP
    replace HR:=nB hb HR
    replace H7:=nB hb H7
    replace HO:=ownB hb HO
    replace HA:=ownB hb HA
    replace HLS:Hid (∀ x ∈ ls,LayAt Wn x.y x.bs x.s.k):=hU (fun x hx=> (HLS.out x hx).below hb)
    replace HB:=nW hb HB
    replace HUI:=hU (HUI.out.below hb)
    replace HVO:=hU (HVO.out.below hb)
    clear hvi hb
    dsimp only
    refine nx hK (⟨hcell H7.out 8,hcell HP.out 0,HP.out,HCP.out _ HB.out⟩) fun hS=> ?_
    clear hK K hS
    (try simp only [acts])
    refine ro 14 fun K hK=> ?_
    refine want rfl ?_
    go_simp
    refine (RBeg xp ui vo vi (l.getD i []) (Hy.outsOf (Hy.chans P) i) (Hy.insOf (Hy.chans P) i) _ HUI.out HVO.out HVI.out (Nat.le_trans (List.length_filter_le _ _) HCL.out) HX.out.m1).mono ?_
    clear HUI HVO HVI HX
    rintro er Wn ⟨vA,rfl,⟨yA,bsA,rfl,hl⟩,hb⟩
    have HLA:=hU hl
    replace HP:=nB hb HP
    replace HR:=nB hb HR
    replace H7:=nB hb H7
    replace HO:=ownB hb HO
    replace HA:=ownB hb HA
    replace HLS:Hid (∀ x ∈ ls,LayAt Wn x.y x.bs x.s.k):=hU (fun x hx=> (HLS.out x hx).below hb)
    replace HB:=nW hb HB
    clear hl hb
    dsimp only
    refine nx hK (⟨hcell H7.out 8,hcell HP.out 0,HP.out,HCP.out _ HB.out⟩) fun hS=> ?_
    clear hK K hS
    (try simp only [acts])
    obtain ⟨xs,hxs⟩:∃ xs:Hy.SB,xs=⟨yA,bsA,sbegin xp (l.getD i []) (Hy.outsOf (Hy.chans P) i) (Hy.insOf (Hy.chans P) i)⟩:=⟨_,rfl⟩
    have hxc:Hy.SB.cells xs=scells yA (sbegin xp (l.getD i []) (Hy.outsOf (Hy.chans P) i) (Hy.insOf (Hy.chans P) i)):=by rw [hxs];rfl
    have hxo:=onesS HLA.out
    replace HLA:Hid (LayAt Wn xs.y xs.bs xs.s.k):=hU (by rw [hxs];exact HLA.out)
    have hss:xs.s=sbegin xp (l.getD i []) (Hy.outsOf (Hy.chans P) i) (Hy.insOf (Hy.chans P) i):=by rw [hxs]
    clear hxs
    rw [← hxc] at hxo ⊢
    have HSS:=hU hss
    have HXO:=hU hxo
    clear hxc hxo hss
    refine ro 15 fun K hK=> ?_
    refine want rfl ?_
    refine wp_buildSlice_one (v:=.agg (Hy.SB.cells xs)) _ rfl rfl Tryz.underlying30 aggSeat.size zeroSeat rfl (by decide) (by decide) rfl ?_
    simp only [Value.cells]
    obtain ⟨g5,hab,hg5⟩:=nbz HB
    obtain ⟨W1,hW1,hba,H5⟩:=nb1 (W:=Wn) (.cells (Hy.SB.cells xs) 72) hab
    rw [hab,hW1]
    clear hab hW1
    have hb:=hba
    replace HP:=nB hb HP
    replace HR:=nB hb HR
    replace H7:=nB hb H7
    replace HO:=ownB hb HO
    replace HA:=ownB hb HA
    replace HLS:Hid (∀ x ∈ ls,LayAt W1 x.y x.bs x.s.k):=hU (fun x hx=> (HLS.out x hx).below hb)
    replace HB:=nW hb HB
    replace HLA:=hU (HLA.out.below hb)
    clear hb hba
    refine nx hK (⟨hcell H7.out 8,hcell HP.out 0,HP.out,HCP.out _ HB.out⟩) fun hS=> ?_
    clear hK K hS
    (try simp only [acts])
    have hln:ls.length=i:=by
     have:=congrArg List.length HSL.out
     rw [List.length_map] at this
     rw [this]
     show (List.take i _).length=i
     rw [List.length_take,show (Hy.mbegin P l).seats.length=P.ps.length by unfold Hy.mbegin;simp]
     omega
    obtain ⟨v2,W2,hrun,hv2,hgr⟩:=apRowM (P:=Tryz.prog) (t:=30) (ty:=30) (bytes:=336) Hy.szSB (by decide) Tryz.underlying30 (by kernel_rfl) (fun x hx=> by rw [List.mem_singleton] at hx;subst hx;exact HXO.out) HO.out (one_rd H5.out) HB.out.size (by rw [List.length_singleton];unfold maxLen;omega) (by rw [List.length_singleton];omega)
    obtain ⟨htn,hbl⟩:=tn_of HO.out HB.out.size hgr
    have HRUN:=hU hrun
    refine ro 16 fun K hK=> ?_
    refine want rfl ?_
    refine wp_append_run _ _ _ _ rfl _ _ rfl rfl _ _ HRUN.out ?_
    replace HO:Hid (KR.Own 72 19 Hy.SB.cells w.heap.size W2 v2 (ls ++ [xs])):=hU hv2
    replace HP:=tnB htn HP
    replace HR:=tnB htn HR
    replace H7:=tnB htn H7
    replace HLS:Hid (∀ x ∈ ls ++ [xs],LayAt W2 x.y x.bs x.s.k):=hU (fun x hx=> by
     rcases List.mem_append.1 hx with hx|hx
     · exact (tnL htn (hU (HLS.out x hx))).out
     · rw [List.mem_singleton] at hx
       subst hx
       exact (tnL htn HLA).out)
    replace HA:=hU (ownTn htn HA.out (by decide))
    replace HB:Hid (Below w.heap.size w W2):=hU (HB.out.trans hbl)
    clear hrun hv2 hgr htn hbl HRUN HLA H5
    refine nx hK (⟨hcell H7.out 8,hcell HP.out 0,HP.out,HCP.out _ HB.out⟩) fun hS=> ?_
    clear hK K
    (try simp only [acts])
    refine tp 17 ?_;(try simp only [acts])
    clear hS
    have hvs:=HO.out.sl Hy.szSB
    refine ro 18 fun K hK=> ?_
    refine want rfl ?_
    refine wp_store1 (v:=v2) (off:=8) (new:=(Hy.ycells ⟨(.slice (some ⟨gp,offp,none⟩) P.ps.length cpp),vw,vc,(.slice (some ⟨gi,offi,none⟩) P.ps.length ci),v2,(.slice aa i ca),[],[]⟩ (Hy.mpart P l (i + 1)))) rfl rfl rfl oneSeats H7.out hvs.vcells hvs.vone (show 8 + 1≤11 by decide) rfl ?_
    intro Wn hp
    have hB:=Below.put HB.out hp (by omega)
    have hsz7:=hlt H7.out
    replace HP:=pO hp HP
    replace HR:=pO hp HR
    replace HO:Hid (KR.Own 72 19 Hy.SB.cells w.heap.size Wn v2 (ls ++ [xs])):=hU (ownTo HO.out H7.out hp (by decide))
    replace HLS:Hid (∀ x ∈ ls ++ [xs],LayAt Wn x.y x.bs x.s.k):=hU (fun x hx=> (HLS.out x hx).put H7.out Hy.noSys hp)
    replace HA:Hid (KR.Own 74 1 Hy.AB.cells w.heap.size Wn (.slice aa i ca) (List.replicate i ⟨.slice none 0 0,[]⟩)):=hU (ownTo HA.out H7.out hp (by decide))
    replace H7:=pA hp
    replace HB:=hU hB
    clear hB hp hvs
    refine nt hK ?_
    clear hK K
    (try simp only [acts])
    refine doneL (by kernel_rfl) (NoPanic.normal ?_) _
    have HSN:Hid ((ls ++ [xs]).map (·.s)=(Hy.mpart P l (i + 1)).seats):=hU (by
     rw [List.map_append,HSL.out,Hy.mseats_at (by omega),HXP.out,List.map_singleton,HSS.out])
    clear HSL HSS HCP HXP
    have f9:Wn.cell? ⟨b7,9,none⟩=some (.slice aa i ca):=hcell H7.out 9
    obtain ⟨g6,hab,hg6⟩:=nbz HB
    obtain ⟨W1,hW1,hba,H6⟩:=nb1 (W:=Wn) (.cells (Hy.AB.cells ⟨.slice none 0 0,[]⟩) 74) hab
    replace HP:=nB hba HP
    replace HR:=nB hba HR
    replace H7:=nB hba H7
    replace HO:=ownB hba HO
    replace HA:=ownB hba HA
    replace HLS:Hid (∀ x ∈ ls ++ [xs],LayAt W1 x.y x.bs x.s.k):=hU (fun x hx=> (HLS.out x hx).below hba)
    replace HB:=nW hba HB
    obtain ⟨v3,W3,hrun,hv3,hgr⟩:=apRowM (P:=Tryz.prog) (t:=31) (ty:=31) (bytes:=24) Hy.szAB (by decide) Tryz.underlying31 (by kernel_rfl) (fun x hx=> by rw [List.mem_singleton] at hx;subst hx;intro u hu;simp [Hy.AB.cells] at hu;subst hu;rfl) HA.out (one_rd H6.out) HB.out.size (by rw [List.length_replicate,List.length_singleton];unfold maxLen;omega) (by rw [List.length_replicate,List.length_singleton];omega)
    obtain ⟨htn,hbl⟩:=tn_of HA.out HB.out.size hgr
    rw [← List.replicate_succ'] at hv3
    obtain ⟨a3,c3,hve,_,_⟩:=(hv3.sl Hy.szAB).shape
    rw [List.length_replicate] at hve
    subst hve
    have HRUN:=hU hrun
    replace HA:=hU hv3
    replace HO:=hU (ownTn htn HO.out (by decide))
    replace HP:=tnB htn HP
    replace HR:=tnB htn HR
    replace H7:=tnB htn H7
    replace HLS:Hid (∀ x ∈ ls ++ [xs],LayAt W3 x.y x.bs x.s.k):=hU (fun x hx=> (tnL htn (hU (HLS.out x hx))).out)
    replace HB:Hid (Below w.heap.size w W3):=hU (HB.out.trans hbl)
    clear hrun hv3 hgr htn hbl hba H6
    repeat' (first
     |(refine wpList_buildSlice_one (v:=.slice none 0 0) rfl _ rfl rfl Tryz.underlying31 oneSts.size zeroSts rfl (by decide) (by decide) rfl ?_;(try simp only [Value.cells]);rw [hab];rw [show Wn.alloc (.cells #[.slice none 0 0] 74)=W1 from hW1];clear hab hW1)
     |(at_builtin;refine wpList_append_run _ rfl _ _ _ _ rfl _ _ rfl rfl _ _ HRUN.out ?_)
     |(refine wpList_store (t:=31) (v:=.slice a3 (i + 1) c3) (off:=9) (new:=(Hy.ycells ⟨(.slice (some ⟨gp,offp,none⟩) P.ps.length cpp),vw,vc,(.slice (some ⟨gi,offi,none⟩) P.ps.length ci),v2,(.slice a3 (i + 1) c3),[],[]⟩ (Hy.mpart P l (i + 1)))) rfl rfl rfl rfl oneRows.size H7.out rfl (show 9 + 1≤11 by decide) (by intro u hu;simp [Value.cells] at hu;subst hu;rfl) rfl ?_;intro Wm hp
       replace HP:=pO hp HP
       replace HR:=pO hp HR
       replace HO:=hU (ownTo HO.out H7.out hp (by decide))
       replace HA:=hU (ownTo HA.out H7.out hp (by decide))
       replace HLS:Hid (∀ x ∈ ls ++ [xs],LayAt Wm x.y x.bs x.s.k):=hU (fun x hx=> (HLS.out x hx).put H7.out Hy.noSys hp)
       replace HB:=hU (Below.put HB.out hp (by omega))
       replace H7:=pA hp
       clear hp HRUN)
     |go_values|go_skip|go_guarded|(with_reducible refine wg ?_)|go_step|go_upon)
    exact ⟨⟨i + 1,v2,ls ++ [xs],a3,c3,by omega,by go_num,HP,HR,H7,HO,HLS,HSN,HA,HB⟩,by simp [intOf];omega⟩
  · obtain rfl:i=P.ps.length:=by omega
    have e1:decide ((P.ps.length:Int)<(P.ps.length:Int))=false:=by simp
    have f0:Wn.cell? ⟨w.heap.size,0,none⟩=some (.slice (some ⟨gp,offp,none⟩) P.ps.length cpp):=hcell HP.out 0
    repeat' (first
     |(refine wpList_load (t:=33) (v:=.agg (Hy.ycells ⟨(.slice (some ⟨gp,offp,none⟩) P.ps.length cpp),vw,vc,(.slice (some ⟨gi,offi,none⟩) P.ps.length ci),vs,(.slice aa P.ps.length ca),[],[]⟩ (Hy.mpart P l P.ps.length))) rfl rfl rfl (run_load_whole Hy.aggSys H7.out rfl) ?_)
     |(refine wpList_store (t:=33) (v:=.agg (Hy.ycells ⟨(.slice (some ⟨gp,offp,none⟩) P.ps.length cpp),vw,vc,(.slice (some ⟨gi,offi,none⟩) P.ps.length ci),vs,(.slice aa P.ps.length ca),[],[]⟩ (Hy.mpart P l P.ps.length))) (off:=0) (new:=(Hy.ycells ⟨(.slice (some ⟨gp,offp,none⟩) P.ps.length cpp),vw,vc,(.slice (some ⟨gi,offi,none⟩) P.ps.length ci),vs,(.slice aa P.ps.length ca),[],[]⟩ (Hy.mpart P l P.ps.length))) rfl rfl rfl rfl Hy.aggSys.size HR.out rfl (show 0 + 11≤11 by decide) (HON.out _ _ _ (HO.out.sl Hy.szSB).vone rfl) rfl ?_;intro Wn hp
       have hB:=Below.put HB.out hp (by omega)
       replace HO:Hid (KR.Sl 72 19 Hy.SB.cells Wn vs ls):=hU ((HO.out.sl Hy.szSB).put HR.out hp (by decide))
       replace HLS:Hid (∀ x ∈ ls,LayAt Wn x.y x.bs x.s.k):=hU (fun x hx=> (HLS.out x hx).put HR.out Hy.noSys hp)
       replace HA:=hU ((HA.out.sl Hy.szAB).put HR.out hp (by decide))
       replace HR:=pA hp
       replace HB:=hU hB
       clear hB hp)
     |go_values|go_skip|go_guarded|(with_reducible refine wg ?_)|go_step|go_upon)
    (try simp only [Exit.inBlock,Exit.then]);refine bodyPost_ret (res_cell_tmp Tryz.results14 Hy.aggSys rfl HR.out rfl) rfl ?_
    have hm:Hy.mpart P l P.ps.length=Hy.mbegin P l:=Hy.mpart_all P l
    rw [hm] at HSL ⊢
    refine .inr ⟨HCK.out,⟨(.slice (some ⟨gp,offp,none⟩) P.ps.length cpp),vw,vc,(.slice (some ⟨gi,offi,none⟩) P.ps.length ci),vs,.slice aa P.ps.length ca,ls,List.replicate P.ps.length ⟨.slice none 0 0,[]⟩⟩,rfl,⟨HPL.out _ HB.out,rfl,⟨HO.out,HLS.out⟩,HSL.out,⟨HA.out,fun x hx=> ?_⟩,?_⟩,⟨rfl,rfl,rfl,rfl⟩,HB.out⟩
    · obtain rfl:=List.eq_of_mem_replicate hx
      exact Sl.nil
    · rw [List.map_replicate]
      rfl
end Rf
end Go.Proofs.YthgehdghihbiaaaGreatDoor
namespace Go.Proofs.YthgehdghihbiaaaGreatDoor
open Go.RowKit KR Kn RegT3
namespace Rf
open Hy
theorem RMachine (p im:ByteArray) (w:World) (hp:p.size≤140737488355328) (him:im.size≤140737488355328):Calls Tryz.prog 6 #[.string p,.string im] w (GivesL p im w):=by
 obtain ⟨Wn,hW0,hb0,HR⟩:=nb1 (W:=w) (.cells #[.slice none 0 0,.int .i64 0,.slice none 0 0,.slice none 0 0,.slice none 0 0,.int .u64 0,.int .i64 0,.int .i64 0,.slice none 0 0,.slice none 0 0,.int .i64 0] 33) rfl
 have HB:=hU hb0
 clear hb0
 go_enter Tryz.func6,Tryz.ntmps6
 repeat' (first|(rw [hW0];clear hW0)|go_values|go_skip|go_guarded|(with_reducible refine wg ?_)|go_step|go_upon)
 refine (RfT.Take p _ hp).mono ?_
 rintro er Wn hg
 obtain ⟨vp,vw,vc,fr,c,rfl,h1,h2,h3,hb,hte,hgo⟩:=took_cells2 hg
 have HTE:=hU hte
 clear hg
 replace HR:=nB hb HR
 replace HB:=nW hb HB
 have HON:=hU (onesPc h1 h2 h3 fr)
 clear hb h1 h2 h3 hte
 obtain ⟨Wo,hWo⟩:∃ Wo,Wo=Wn:=⟨_,rfl⟩
 have HO:Hid (Below Wo.heap.size Wo Wn):=hU (by rw [hWo];exact Below.refl _ _)
 rw [← hWo] at hgo
 have HGO:=hU hgo
 have HRo:Hid (Wo.heap[w.heap.size]? =some (.cells #[.slice none 0 0,.int .i64 0,.slice none 0 0,.slice none 0 0,.slice none 0 0,.int .u64 0,.int .i64 0,.int .i64 0,.slice none 0 0,.slice none 0 0,.int .i64 0] 33 (0,0))):=hU (by rw [hWo];exact HR.out)
 clear hgo hWo
 obtain ⟨b5,hab5,hbz5⟩:=nbz HB
 have hb5:=nlt HR hab5
 obtain ⟨W5,hW5,hba5,HZ5⟩:=nb1 (W:=Wn) (.cells #[.slice none 0 0,.int .i64 0,.slice none 0 0,.slice none 0 0] 27) hab5
 dsimp only
 have hcase:c ≠ 0∨c=0:=by
  by_cases h:c=0
  · exact .inr h
  · exact .inl h
 rcases hcase with hc|rfl
 case' inl=> have e1:(c !=0)=true:=by simpa using hc
 all_goals repeat' (first
  |(rw [hW5,hab5];clear hW5)
  |(refine wpList_store (t:=27) (v:=.agg (pcells vp vw vc fr)) (off:=0) (new:=pcells vp vw vc fr) rfl rfl rfl rfl aggPlan.size HZ5.out rfl (show 0 + 4≤4 by decide) HON.out rfl ?_;intro Wn hp
    have hbb:=Below.put hba5 hp (Nat.le_of_eq hab5)
    replace HR:=nB hbb HR
    replace HO:=hU (HO.out.trans (hbb.mono HO.out.size))
    replace HB:=nW hbb HB
    have HP:=pA hp
    clear hbb hp hba5 HZ5 HON)
  |(refine wpList_store (t:=33) (v:=.agg #[.slice none 0 0,.int .i64 0,.slice none 0 0,.slice none 0 0,.slice none 0 0,.int .u64 0,.int .i64 0,.int .i64 0,.slice none 0 0,.slice none 0 0,.int .i64 0]) (off:=0) (new:=#[.slice none 0 0,.int .i64 0,.slice none 0 0,.slice none 0 0,.slice none 0 0,.int .u64 0,.int .i64 0,.int .i64 0,.slice none 0 0,.slice none 0 0,.int .i64 0]) rfl rfl rfl rfl aggSys.size HR.out rfl (show 0 + 11≤11 by decide) ones_zero rfl ?_;intro Wn hp
    replace HB:=hU (Below.put HB.out hp (Nat.le_refl _))
    replace HR:=pA hp
    clear hp)
  |go_values|go_skip|go_guarded|(with_reducible refine wg ?_)|go_step|go_upon)
 · (try simp only [Exit.inBlock,Exit.then]);refine bodyPost_ret (res_cell_tmp Tryz.results6 aggSys rfl HR.out rfl) rfl ?_
   exact ⟨_,_,none,rfl,rfl,ones_zero,HB.out,.inl ⟨hc,rfl,HTE.out hc⟩,fun _=> rfl,fun P l h=> nomatch h⟩
 obtain ⟨P,hck,rfl,hR,htk⟩:=HGO.out rfl
 have HTK:=hU htk
 have HPL:=hU ((hR Wo fun _ _ _ _ _ _=> rfl).below HO.out)
 have HST:Hid (∀ W',Tk.Stay Wo W'→PlanR W' vp vw vc P):=hU hR
 have HCK:=hU hck
 clear HGO hR hck htk HTE
 refine (Unpack im _ him).mono ?_
 rintro er Wn ⟨lv,e,rfl,hb,hcase⟩
 replace HR:=nB hb HR
 replace HP:=nB hb HP
 replace HPL:=hU (HPL.out.below hb)
 replace HO:=hU (HO.out.trans (hb.mono HO.out.size))
 replace HB:=nW hb HB
 clear hb
 rcases hcase with ⟨c,hu,rfl,rfl⟩|⟨l,hu,rfl,hI⟩
 · have hc:=Ld.error_ne hu
   have e1:((c:Int) !=0)=true:=by simpa using hc
   have HUE:=hU hu
   clear hu
   dsimp only
   repeat' (first
    |(refine wpList_store (t:=33) (v:=.agg #[.slice none 0 0,.int .i64 0,.slice none 0 0,.slice none 0 0,.slice none 0 0,.int .u64 0,.int .i64 0,.int .i64 0,.slice none 0 0,.slice none 0 0,.int .i64 0]) (off:=0) (new:=#[.slice none 0 0,.int .i64 0,.slice none 0 0,.slice none 0 0,.slice none 0 0,.int .u64 0,.int .i64 0,.int .i64 0,.slice none 0 0,.slice none 0 0,.int .i64 0]) rfl rfl rfl rfl aggSys.size HR.out rfl (show 0 + 11≤11 by decide) ones_zero rfl ?_;intro Wn hp
      replace HB:=hU (Below.put HB.out hp (Nat.le_refl _))
      replace HR:=pA hp
      clear hp)
    |go_values|go_skip|go_guarded|(with_reducible refine wg ?_)|go_step|go_upon)
   (try simp only [Exit.inBlock,Exit.then]);refine bodyPost_ret (res_cell_tmp Tryz.results6 aggSys rfl HR.out rfl) rfl ?_
   exact ⟨_,_,none,rfl,rfl,ones_zero,HB.out,.inr ⟨P,HTK.out,.inl ⟨_,HUE.out,rfl,hc,rfl⟩⟩,fun _=> rfl,fun P l h=> nomatch h⟩
 · have HU:=hU hu
   obtain ⟨Wu,hWu⟩:∃ Wu,Wu=Wn:=⟨_,rfl⟩
   have HOU:Hid (Below Wu.heap.size Wu Wn):=hU (by rw [hWu];exact Below.refl _ _)
   have HRu:Hid (Wu.heap[w.heap.size]? =some (.cells #[.slice none 0 0,.int .i64 0,.slice none 0 0,.slice none 0 0,.slice none 0 0,.int .u64 0,.int .i64 0,.int .i64 0,.slice none 0 0,.slice none 0 0,.int .i64 0] 33 (0,0))):=hU (by rw [hWu];exact HR.out)
   have HIO:Hid (Unp.ImgO Wu lv l):=hU (by rw [hWu];exact hI)
   have him:=imgAt_of hI.at
   clear hWu
   obtain ⟨ai,ci,rfl,_⟩:=id him
   have HI:=hU (imgS_of hI)
   clear him hu hI
   obtain ⟨ap,cp,hvp,_,_⟩:=HPL.out.pa.shape
   rw [show (parts P).length=P.ps.length from List.length_map _] at hvp
   subst hvp
   have p0:Wn.cell? ⟨b5,0,none⟩=some (.slice ap P.ps.length cp):=hcell HP.out 0
   by_cases hlen:l.length=P.ps.length
   · have e2:(((l.length:Nat):Int) !=((P.ps.length:Nat):Int))=false:=by rw [hlen];simp
     have HLEN:=hU hlen
     clear hlen
     dsimp only
     repeat' (first
      |(refine wpList_load (t:=27) (v:=.agg (pcells (.slice ap P.ps.length cp) vw vc P.fr)) rfl rfl rfl (run_load_whole aggPlan HP.out rfl) ?_)
      |go_values|go_skip|go_guarded|(with_reducible refine wg ?_)|go_step|go_upon)
     refine (RBegin (.slice ap P.ps.length cp) vw vc (.slice ai l.length ci) P l _ HPL.out HCK.out HI.out HLEN.out).mono ?_
     rintro er Wn hg
     obtain ⟨c,ck,rfl,hcs,hon,hb,hgo⟩:=hg.cells
     have hck:ck=0:=by
      rcases hg with ⟨h,_⟩|⟨_,y,h,_⟩
      · exact absurd HCK.out h
      · injection h with h
        injection h with h
        simp only [Array.mk.injEq,List.cons.injEq,and_true] at h
        injection h.2 with _ h
     clear hg
     subst hck
     replace HR:=nB hb HR
     replace HO:=hU (HO.out.trans (hb.mono HO.out.size))
     replace HOU:=hU (HOU.out.trans (hb.mono HOU.out.size))
     replace HB:=nW hb HB
     have HCS:=hU hcs
     have HON:=hU hon
     have HGO:=hU hgo
     clear hb hcs hon hgo p0
     dsimp only
     repeat' (first
      |(refine wpList_store (t:=33) (v:=.agg c) (off:=0) (new:=c) rfl rfl rfl rfl aggSys.size HR.out HCS.out (show 0 + 11≤11 by decide) HON.out (splice_whole (by rw [show (Value.agg c).cells.size=11 from HCS.out];rfl)) ?_;intro Wn hp
        have HQ:=hU hp
        replace HB:=hU (Below.put HB.out hp (Nat.le_refl _))
        have HR0:=HR
        replace HR:=pA hp
        clear hp)
      |go_values|go_skip|go_guarded|(with_reducible refine wg ?_)|go_step|go_upon)
     (try simp only [Exit.inBlock,Exit.then]);refine bodyPost_ret (res_cell_tmp Tryz.results6 aggSys rfl HR.out HCS.out) rfl ?_
     refine ⟨_,_,some (P,l),rfl,HCS.out,HON.out,HB.out,.inr ⟨P,HTK.out,.inr ⟨l,HU.out,.inr ⟨HLEN.out,rfl,rfl⟩⟩⟩,(fun h=> nomatch h),fun P' l' he=> ?_⟩
     obtain ⟨rfl,rfl⟩:=Prod.mk.inj (Option.some.inj he)
     obtain ⟨_,y,rfl,hs,hv⟩:=HGO.out rfl
     have hst:PlanR Wn y.vp y.vw y.vc (mbegin P l).p:=by
      rw [hv.1,hv.2.1,hv.2.2.1]
      refine HST.out Wn fun k c T hc h1 h2=> ?_
      have hne:k ≠ w.heap.size:=fun he=> by
       subst he
       rw [HRo.out] at hc
       injection hc with hc
       injection hc with _ hT _
       exact h2 hT.symm
      rw [HQ.out.oth k hne,HO.out.block k (hlt hc)]
     have him2:ImgAt Wn (.slice ai l.length ci) l:=imgAt_of (HIO.out.stay (fun k c T hc hT=> by
      have hne:k ≠ w.heap.size:=fun he=> by
       subst he
       rw [HRu.out] at hc
       injection hc with hc
       injection hc with _ hT2 _
       subst hT2
       rcases hT with h|h <;> exact absurd h (by decide)
      rw [HQ.out.oth k hne,HOU.out.block k (hlt hc)])).at
     exact ⟨HCK.out,y,rfl,hs.put HR0.out HQ.out hst noSys (by decide) (by decide) (by decide),by rw [hv.2.2.2];exact him2⟩
   · have e2:(((l.length:Nat):Int) !=((P.ps.length:Nat):Int))=true:=by simp only [bne_iff_ne,ne_eq];omega
     have HNL:=hU hlen
     clear hlen
     dsimp only
     repeat' (first
      |(refine wpList_store (t:=33) (v:=.agg #[.slice none 0 0,.int .i64 0,.slice none 0 0,.slice none 0 0,.slice none 0 0,.int .u64 0,.int .i64 0,.int .i64 0,.slice none 0 0,.slice none 0 0,.int .i64 0]) (off:=0) (new:=#[.slice none 0 0,.int .i64 0,.slice none 0 0,.slice none 0 0,.slice none 0 0,.int .u64 0,.int .i64 0,.int .i64 0,.slice none 0 0,.slice none 0 0,.int .i64 0]) rfl rfl rfl rfl aggSys.size HR.out rfl (show 0 + 11≤11 by decide) ones_zero rfl ?_;intro Wn hp
        replace HB:=hU (Below.put HB.out hp (Nat.le_refl _))
        replace HR:=pA hp
        clear hp)
      |go_values|go_skip|go_guarded|(with_reducible refine wg ?_)|go_step|go_upon)
     (try simp only [Exit.inBlock,Exit.then]);refine bodyPost_ret (res_cell_tmp Tryz.results6 aggSys rfl HR.out rfl) rfl ?_
     exact ⟨_,_,none,rfl,rfl,ones_zero,HB.out,.inr ⟨P,HTK.out,.inr ⟨l,HU.out,.inl ⟨HNL.out,rfl,rfl⟩⟩⟩,fun _=> rfl,fun P l h=> nomatch h⟩
end Rf
end Go.Proofs.YthgehdghihbiaaaGreatDoor
