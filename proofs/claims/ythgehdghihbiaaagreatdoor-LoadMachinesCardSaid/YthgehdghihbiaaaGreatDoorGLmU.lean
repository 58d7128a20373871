/- transomref20.num: the number at a place, or why there is none. No condition. transomref20.Unpack: the images of bytes, or why there are none. Condition: bytes are as many as a string can have. -/
import Derived.Test.YthgehdghihbiaaaGreatDoorGLdU
set_option linter.unusedVariables false
set_option maxRecDepth 100000
set_option maxHeartbeats 8000000
set_option linter.unusedSimpArgs false
namespace Go.Proofs.YthgehdghihbiaaaGreatDoor
open Go.RowKit
namespace Rf
theorem num_more (s:ByteArray) (p:Nat) (m:Int) (W:World) (hs:s.size≤140737488355328) (hp:s.size≤p) (hp':p≤140737488355328):Calls Tryz.prog 38 #[.string s,.int .i64 (p:Int),.int .i64 m] W (Is (.tuple #[.int .i64 0,.int .i64 2]) W):=by
 have hpI:¬ (p:Int)<s.size:=by omega
 go_enter Tryz.func38,Tryz.ntmps38
 repeat' (first|go_values|go_skip|go_guarded|(with_reducible refine wg ?_)|go_step|go_upon|go_quiet (fail))
 go_ret2
 exact is_of rfl
theorem num_big (s:ByteArray) (p:Nat) (m:Int) (W:World) (hs:s.size≤140737488355328) (hp:p<s.size) (hm:m<(s[p].toNat:Int)):Calls Tryz.prog 38 #[.string s,.int .i64 (p:Int),.int .i64 m] W (Is (.tuple #[.int .i64 0,.int .i64 4]) W):=by
 have hpI:(p:Int)<s.size:=by omega
 have hp0:(0:Int)≤p:=by omega
 have hx1:(s[p].toNat:Int)≤255:=by have:=s[p].toNat_lt;omega
 go_enter Tryz.func38,Tryz.ntmps38
 repeat' (first|go_values|go_skip|go_guarded|(with_reducible refine wg ?_)|go_step|go_upon|go_quiet (fail))
 go_ret2
 exact is_of rfl
theorem num_ok (s:ByteArray) (p:Nat) (m:Int) (W:World) (hs:s.size≤140737488355328) (hp:p<s.size) (hm:¬ m<(s[p].toNat:Int)):Calls Tryz.prog 38 #[.string s,.int .i64 (p:Int),.int .i64 m] W (Is (.tuple #[.int .i64 (s[p].toNat:Int),.int .i64 0]) W):=by
 have hpI:(p:Int)<s.size:=by omega
 have hp0:(0:Int)≤p:=by omega
 have hx1:(s[p].toNat:Int)≤255:=by have:=s[p].toNat_lt;omega
 go_enter Tryz.func38,Tryz.ntmps38
 repeat' (first|go_values|go_skip|go_guarded|(with_reducible refine wg ?_)|go_step|go_upon|go_quiet (fail))
 go_ret2
 exact is_of rfl
def Gets (w:World) (s:ByteArray) (ev:Ending) (w':World):Prop:=
 ∃ lv e,ev=.returned (.tuple #[lv,.int .i64 e])∧Below w.heap.size w w'∧
   ((∃ c:Nat,Ld.unpack s.data.toList=.error c∧e=c∧lv=.slice none 0 0)∨∃ l,Ld.unpack s.data.toList=.ok (Ld.of l)∧e=0∧Unp.ImgO w' lv l)
def Told (s:ByteArray) (k:Nat) (acc:List (List ByteArray)) (p:Nat):Prop:=Ld.unpack s.data.toList=Ld.finish (Ld.preR acc (Ld.rows k (s.data.toList.drop p)))
def OuterAt (w:World) (s:ByteArray) (N:Nat) (av lv iv:Value) (W:World) (i p:Nat) (rs:List (Value × List ByteArray)):Prop:=
 i≤N∧av=.int .i64 (p:Int)∧iv=.int .i64 (i:Int)∧rs.length=i∧p≤s.size∧Below w.heap.size w W∧W.ownsRow w.heap.size 43 1 lv i (rs.map (·.1))∧(∀ x ∈ rs,Unp.RowAt W x.1 x.2)∧Told s (N - i) (rs.map (·.2)) p
def Outer (w:World) (s:ByteArray) (N:Nat) (av lv iv:Value) (W:World):Prop:=∃ i p rs,OuterAt w s N av lv iv W i p rs
def InnerAt (s:ByteArray) (n p0:Nat) (W0:World) (av rv jv:Value) (W:World) (j p:Nat) (acc:List ByteArray):Prop:=
 j≤n∧av=.int .i64 (p:Int)∧jv=.int .i64 (j:Int)∧acc.length=j∧p≤s.size∧Below W0.heap.size W0 W∧W.ownsRow W0.heap.size 9 1 rv j (acc.map Value.string)∧(∀ x ∈ acc,x.size≤64)∧Ld.strs n (s.data.toList.drop p0)=Ld.pre acc (Ld.strs (n - j) (s.data.toList.drop p))
def Inner (s:ByteArray) (n p0:Nat) (W0:World) (av rv jv:Value) (W:World):Prop:=∃ j p acc,InnerAt s n p0 W0 av rv jv W j p acc
theorem rowAt_below {W W':World} {v:Value} {r:List ByteArray} (h:Unp.RowAt W v r) (hb:Below W.heap.size W W'):Unp.RowAt W' v r:=
 Unp.rowAt_same h (fun g cur hg=> hb.block g (Unp.heap_lt hg))
theorem inner_next {s:ByteArray} {n p0:Nat} {W0 W W':World} {av rv rv' jv:Value} {j p:Nat} {acc:List ByteArray} {q:Int} (h:InnerAt s n p0 W0 av rv jv W j p acc) (hj:j<n) (hp:p<s.size) (h64:s[p].toNat≤64) (hl:¬ s.size - (p + 1)<s[p].toNat)
 (ho:W'.ownsRow W0.heap.size 9 1 rv' (j + 1) (acc.map Value.string ++ [.string (s.extract (p + 1) (p + 1 + s[p].toNat))])) (hg:(W.alloc (.cells #[.string (s.extract (p + 1) (p + 1 + s[p].toNat))] 9)).grownBy W' rv.ownBlock) (hq:q=((p + 1 + s[p].toNat:Nat):Int)):
 Inner s n p0 W0 (.int .i64 q) rv' (.int .i64 ((j:Int) + 1)) W':=by
 subst hq
 obtain ⟨h1,h2,h3,h4,h5,h6,h7,h8,h9⟩:=h
 have hsz:=h6.size
 have hgs:=hg.size
 simp at hgs
 refine ⟨j + 1,p + 1 + s[p].toNat,acc ++ [s.extract (p + 1) (p + 1 + s[p].toNat)],by omega,rfl,by go_num,by simp [h4],by omega,?_,by simpa using ho,?_,?_⟩
 · refine h6.trans ⟨hg.os,hg.tape,hg.output,by omega,fun k hk=> ?_⟩
   rw [hg.block k (by simp;omega) (by
    intro hh
    obtain ⟨hge,_⟩:=ownBlock_lt h7 hh.symm
    omega),Lib.alloc_old W _ k (by omega)]
 · intro x hx
   rcases List.mem_append.mp hx with hx|hx
   · exact h8 x hx
   · obtain rfl:x=s.extract (p + 1) (p + 1 + s[p].toNat):=by simpa using hx
     rw [ByteArray.size_extract]
     omega
 · have h9':Ld.strs n (s.data.toList.drop p0)=Ld.pre acc (Ld.strs (n - (j + 1) + 1) (s.data.toList.drop p)):=by rw [show n - (j + 1) + 1=n - j by omega];exact h9
   exact Ld.strs_next h9' hp (by omega) hl
theorem outer_next {w W Wr W':World} {s:ByteArray} {N i p pr:Nat} {av lv iv lv' rv avr jv:Value} {rs:List (Value × List ByteArray)} {acc:List ByteArray} (h:OuterAt w s N av lv iv W i p rs) (hi:i<N) (hp:p<s.size) (hm:¬ 8<s[p].toNat)
 (hr:InnerAt s s[p].toNat (p + 1) W avr rv jv Wr s[p].toNat pr acc)
 (ho:W'.ownsRow w.heap.size 43 1 lv' (i + 1) (rs.map (·.1) ++ [rv])) (hg:(Wr.alloc (.cells #[rv] 43)).grownBy W' lv.ownBlock):
 Outer w s N (.int .i64 (pr:Int)) lv' (.int .i64 ((i:Int) + 1)) W':=by
 obtain ⟨h1,h2,h3,h4,h5,h6,h7,h8,h9⟩:=h
 obtain ⟨r1,r2,r3,r4,r5,r6,r7,r8,r9⟩:=hr
 have hlr:=ownsRow_below (w:=w) h7 r6
 have hst:∀ (k:Nat) (c:Array Value) (T:TypeId),Wr.heap[k]? =some (.cells c T (0,0))→T ≠ 43→W'.heap[k]? =Wr.heap[k]? :=by
  intro k c T hk hT
  have hlt:=Unp.heap_lt hk
  rw [hg.block k (by simp;omega) (by
   intro hh
   obtain ⟨_,_,cur,hcur⟩:=ownBlock_lt hlr hh.symm
   exact Unp.ne_of_types hk hcur hT rfl),Lib.alloc_old Wr _ k hlt]
 have hgs:=hg.size
 simp at hgs
 have hWr:=r6.size
 have hw:=h6.size
 refine ⟨i + 1,pr,rs ++ [(rv,acc)],by omega,rfl,by go_num,by simp [h4],r5,?_,by simpa using ho,?_,?_⟩
 · refine (h6.trans (r6.mono hw)).trans ⟨hg.os,hg.tape,hg.output,by omega,fun k hk=> ?_⟩
   rw [hg.block k (by simp;omega) (by
    intro hh
    obtain ⟨hge,_⟩:=ownBlock_lt hlr hh.symm
    omega),Lib.alloc_old Wr _ k (by omega)]
 · intro x hx
   rcases List.mem_append.mp hx with hx|hx
   · exact Unp.rowAt_same (rowAt_below (h8 x hx) r6) (fun g cur hgc=> hst g cur _ hgc (by decide))
   · obtain rfl:x=(rv,acc):=by simpa using hx
     exact Unp.rowAt_same ⟨⟨_,by rw [r4];exact r7⟩,r8⟩ (fun g cur hgc=> hst g cur _ hgc (by decide))
 · have h9':Ld.unpack s.data.toList=Ld.finish (Ld.preR (rs.map (·.2)) (Ld.rows (N - (i + 1) + 1) (s.data.toList.drop p))):=by rw [show N - (i + 1) + 1=N - i by omega];exact h9
   have r9':Ld.strs s[p].toNat (s.data.toList.drop (p + 1))=Ld.pre acc (Ld.strs 0 (s.data.toList.drop pr)):=by rw [Nat.sub_self] at r9;exact r9
   have:=Ld.rows_next h9' hp hm (Ld.strs_end r9')
   unfold Told
   rw [List.map_append]
   exact this
theorem gets_no {w w':World} {s:ByteArray} {c:Nat} {e:Int} (h:Ld.unpack s.data.toList=.error c) (he:e=c) (hb:Below w.heap.size w w'):Gets w s (.returned (.tuple #[.slice none 0 0,.int .i64 e])) w':=
 ⟨_,_,rfl,hb,.inl ⟨c,h,he,rfl⟩⟩
theorem Unpack (s:ByteArray) (w:World) (hs:s.size≤140737488355328):Calls Tryz.prog 13 #[.string s] w (Gets w s):=by
 by_cases hp:0<s.size
 · by_cases hm:4<s[0].toNat
   · have HU:=hU (Ld.unp_big hp hm)
     go_enter Tryz.func13,Tryz.ntmps13
     repeat' (first|go_values|go_skip|go_guarded|(with_reducible refine wg ?_)|go_step|go_upon)
     refine (num_big s 0 4 _ hs hp (by omega)).mono ?_
     rintro ev w1 ⟨rfl,rfl⟩
     dsimp only
     repeat' (first|go_values|go_skip|go_guarded|(with_reducible refine wg ?_)|go_step|go_upon)
     go_ret2
     exact gets_no HU.out rfl (Below.refl _ _)
   · have HU:=hU (Ld.unp_go hp hm)
     have HS:=hU hs
     go_enter Tryz.func13,Tryz.ntmps13
     repeat' (first|go_values|go_skip|go_guarded|(with_reducible refine wg ?_)|go_step|go_upon)
     refine (num_ok s 0 4 _ hs hp (by omega)).mono ?_
     rintro ev w1 ⟨rfl,rfl⟩
     have hN4:s[0].toNat≤4:=by omega
     dsimp only
     generalize s[0].toNat=N at *
     repeat' (first|go_values|go_skip|go_guarded|(with_reducible refine wg ?_)|go_step|go_upon)
     go_loopw [6,7,8] (fun av lv iv wr=> Outer w s N av lv iv wr) (fun _ _ iv _=> N - (intOf iv).toNat)
     case atStart=> exact ⟨0,1,[],Nat.zero_le _,rfl,rfl,rfl,by omega,Below.refl _ _,World.ownsRow_nil _ _ _ _,(fun x hx=> by cases hx),HU.out⟩
     case round=>
      clear HU
      obtain ⟨i,p,rs,hrel⟩:=hrel
      have HR:=hU hrel
      obtain ⟨la,lc,rfl⟩:=ownsRow_slice hrel.2.2.2.2.2.2.1
      obtain ⟨hi,rfl,rfl,hrsl,hps,hbel,hown,hrows,htold⟩:=hrel
      have HOWN:=hU hown
      have HROWS:=hU hrows
      have HTOLD:=hU htold
      clear hown hrows htold hrsl
      by_cases hlt:i<N
      · have HT1:=hU (show Ld.unpack s.data.toList=Ld.finish (Ld.preR (rs.map (·.2)) (Ld.rows (N - i - 1 + 1) (s.data.toList.drop p))) by rw [show N - i - 1 + 1=N - i by omega];exact HTOLD.out)
        by_cases hpp:p<s.size
        · by_cases hmm:8<s[p].toNat
          · have HU:=hU (Ld.rows_big HT1.out hpp hmm)
            repeat' (first|go_values|go_skip|go_guarded|(with_reducible refine wg ?_)|go_step|go_upon)
            refine (num_big s p 8 _ HS.out hpp (by omega)).mono ?_
            rintro ev w1 ⟨rfl,rfl⟩
            dsimp only
            repeat' (first|go_values|go_skip|go_guarded|(with_reducible refine wg ?_)|go_step|go_upon)
            go_ret2
            exact gets_no HU.out rfl hbel
          · repeat' (first|go_values|go_skip|go_guarded|(with_reducible refine wg ?_)|go_step|go_upon)
            refine (num_ok s p 8 _ HS.out hpp (by omega)).mono ?_
            rintro ev w1 ⟨rfl,rfl⟩
            dsimp only
            have hn8:s[p].toNat≤8:=by omega
            have HBAD:=hU (fun c=> Ld.rows_bad (c:=c) HT1.out hpp hmm)
            have HNEXT:=hU (fun (Wr W':World) (lv' rv avr jv:Value) (pr:Nat) (acc:List ByteArray) hr ho hg=> outer_next (Wr:=Wr) (W':=W') (lv':=lv') (rv:=rv) (avr:=avr) (jv:=jv) (pr:=pr) (acc:=acc) HR.out hlt hpp hmm hr ho hg)
            have hx255:(s[p].toNat:Int)≤8:=by omega
            generalize s[p].toNat=n at *
            repeat' (first|go_values|go_skip|go_guarded|(with_reducible refine wg ?_)|go_step|go_upon)
            obtain ⟨wo,rfl⟩:∃ wo:World,wo=wr:=⟨_,rfl⟩
            go_loopw [6,11,12] (fun av rv jv wi=> Inner s n (p + 1) wo av rv jv wi) (fun _ _ jv _=> n - (intOf jv).toNat)
            case atStart=> exact ⟨0,p + 1,[],Nat.zero_le _,by go_num,rfl,rfl,by omega,Below.refl _ _,World.ownsRow_nil _ _ _ _,(fun x hx=> by cases hx),(Ld.pre_nil _).symm⟩
            case round=>
             obtain ⟨j,pr,acc,hrel⟩:=hrel
             have HJ:=hU hrel
             obtain ⟨ra,rc,rfl⟩:=ownsRow_slice hrel.2.2.2.2.2.2.1
             obtain ⟨hj,rfl,rfl,hal,hpr,hbi,hownr,h64,htr⟩:=hrel
             have HOR:=hU hownr
             have HTR:=hU htr
             have HBI:=hU hbi
             clear hal hownr h64 htr hbi
             have hbz:=HBI.out.size
             have hwz:=hbel.size
             by_cases hjt:j<n
             · have HT2:=hU (show Ld.strs n (s.data.toList.drop (p + 1))=Ld.pre acc (Ld.strs (n - j - 1 + 1) (s.data.toList.drop pr)) by rw [show n - j - 1 + 1=n - j by omega];exact HTR.out)
               by_cases hp3:pr<s.size
               · by_cases hm3:64<s[pr].toNat
                 · have HU:=hU (HBAD.out 4 (Ld.strs_big HT2.out hp3 hm3))
                   repeat' (first|go_values|go_skip|go_guarded|(with_reducible refine wg ?_)|go_step|go_upon)
                   refine (num_big s pr 64 _ HS.out hp3 (by omega)).mono ?_
                   rintro ev w1 ⟨rfl,rfl⟩
                   dsimp only
                   repeat' (first|go_values|go_skip|go_guarded|(with_reducible refine wg ?_)|go_step|go_upon)
                   go_ret2
                   exact gets_no HU.out rfl (hbel.trans (HBI.out.mono hwz))
                 · have h64:(s[pr].toNat:Int)≤64:=by omega
                   repeat' (first|go_values|go_skip|go_guarded|(with_reducible refine wg ?_)|go_step|go_upon)
                   refine (num_ok s pr 64 _ HS.out hp3 (by omega)).mono ?_
                   rintro ev w1 ⟨rfl,rfl⟩
                   dsimp only
                   by_cases hsh:s.size - (pr + 1)<s[pr].toNat
                   · have HU:=hU (HBAD.out 2 (Ld.strs_short HT2.out hp3 hm3 hsh))
                     have hsI:(s.size:Int)<(pr:Int) + 1 + s[pr].toNat:=by omega
                     repeat' (first|go_values|go_skip|go_guarded|(with_reducible refine wg ?_)|go_step|go_upon|go_quiet (fail))
                     go_ret2
                     exact gets_no HU.out rfl (hbel.trans (HBI.out.mono hwz))
                   · have hsI:¬ (s.size:Int)<(pr:Int) + 1 + s[pr].toNat:=by omega
                     obtain ⟨g,cap,W',hrun,ho',hg',hgg,hgl⟩:=append_one (P:=Tryz.prog) (ty:=43) Tryz.underlying43 Unp.infoStr rfl (W:=wr) (x:=.string (s.extract (pr + 1) (pr + 1 + s[pr].toNat))) HOR.out rfl (by omega) (by omega) (by omega)
                     have HNX:=hU (fun q hq=> inner_next (q:=q) HJ.out hjt hp3 (by omega) hsh ho' hg' hq)
                     have HRUN:=hU hrun
                     clear hg' ho' hrun
                     repeat' (first|(at_builtin;refine wpList_append_run _ rfl _ _ _ _ rfl _ _ rfl rfl _ _ HRUN.out ?_)|go_values|go_skip|go_guarded|(with_reducible refine wg ?_)|go_step|go_upon|go_quiet (fail))
                     exact ⟨HNX.out _ (by omega),by simp [intOf];omega⟩
               · have HU:=hU (HBAD.out 2 (Ld.strs_more HT2.out (by omega)))
                 repeat' (first|go_values|go_skip|go_guarded|(with_reducible refine wg ?_)|go_step|go_upon)
                 refine (num_more s pr 64 _ HS.out (by omega) (by have:=HS.out;omega)).mono ?_
                 rintro ev w1 ⟨rfl,rfl⟩
                 dsimp only
                 repeat' (first|go_values|go_skip|go_guarded|(with_reducible refine wg ?_)|go_step|go_upon)
                 go_ret2
                 exact gets_no HU.out rfl (hbel.trans (HBI.out.mono hwz))
             · obtain rfl:j=n:=by omega
               obtain ⟨g,cap,W',hrun,ho',hg',hgg,hgl⟩:=append_one (P:=Tryz.prog) (ty:=28) Tryz.underlying28 Unp.infoStrs rfl (W:=wr) (x:=.slice ra j rc) (ownsRow_below (w:=w) HOWN.out HBI.out) rfl (by omega) (by omega) (by omega)
               have HGR:=hU hg'
               have HO2:=hU ho'
               have HRUN:=hU hrun
               clear hg' ho' hrun
               repeat' (first|(at_builtin;refine wpList_append_run _ rfl _ _ _ _ rfl _ _ rfl rfl _ _ HRUN.out ?_)|go_values|go_skip|go_guarded|(with_reducible refine wg ?_)|go_step|go_upon)
               exact ⟨HNEXT.out _ _ _ _ _ _ _ _ HJ.out HO2.out HGR.out,by simp [intOf];omega⟩
        · have HU:=hU (Ld.rows_more HT1.out (by omega))
          repeat' (first|go_values|go_skip|go_guarded|(with_reducible refine wg ?_)|go_step|go_upon)
          refine (num_more s p 8 _ HS.out (by omega) (by have:=HS.out;omega)).mono ?_
          rintro ev w1 ⟨rfl,rfl⟩
          dsimp only
          repeat' (first|go_values|go_skip|go_guarded|(with_reducible refine wg ?_)|go_step|go_upon)
          go_ret2
          exact gets_no HU.out rfl hbel
      · obtain rfl:i=N:=by omega
        have HT0:=hU (show Ld.unpack s.data.toList=Ld.finish (Ld.preR (rs.map (·.2)) (Ld.rows 0 (s.data.toList.drop p))) by have:=HTOLD.out;unfold Told at this;rw [Nat.sub_self] at this;exact this)
        by_cases hpp:p<s.size
        · have hpI:(p:Int)<s.size:=by omega
          have HU:=hU (Ld.rows_left HT0.out hpp)
          repeat' (first|go_values|go_skip|go_guarded|(with_reducible refine wg ?_)|go_step|go_upon|go_quiet (fail))
          go_ret2
          exact gets_no HU.out rfl hbel
        · have hpI:¬ (p:Int)<s.size:=by omega
          have hT:Ld.unpack s.data.toList=.ok (Ld.of (rs.map (·.2))):=Ld.rows_end HT0.out (by omega)
          have hfit:=(Ld.fits_iff _).1 (Ld.unpack_ok hT).1
          have hI:Unp.ImgO wr (.slice la i lc) (rs.map (·.2)):=Unp.imgO_of HR.out.2.2.2.1 (by omega) HOWN.out HROWS.out (fun x hx=> by
           have:=((Ld.okRow_iff _).1 (hfit.2 x.2 (List.mem_map.mpr ⟨x,hx,rfl⟩))).1
           rw [Ld.row,List.length_map] at this
           omega)
          have HT:=hU hT
          have HI:=hU hI
          clear hT hI hfit
          repeat' (first|go_values|go_skip|go_guarded|(with_reducible refine wg ?_)|go_step|go_upon|go_quiet (fail))
          go_ret2
          exact ⟨_,_,rfl,bel,.inr ⟨rs.map (·.2),HT.out,rfl,HI.out.below bel⟩⟩
 · have HU:=hU (Ld.unp_more (s:=s) (by omega))
   go_enter Tryz.func13,Tryz.ntmps13
   repeat' (first|go_values|go_skip|go_guarded|(with_reducible refine wg ?_)|go_step|go_upon)
   refine (num_more s 0 4 _ hs (by omega) (by omega)).mono ?_
   rintro ev w1 ⟨rfl,rfl⟩
   dsimp only
   repeat' (first|go_values|go_skip|go_guarded|(with_reducible refine wg ?_)|go_step|go_upon)
   go_ret2
   exact gets_no HU.out rfl (Below.refl _ _)
end Rf
end Go.Proofs.YthgehdghihbiaaaGreatDoor
