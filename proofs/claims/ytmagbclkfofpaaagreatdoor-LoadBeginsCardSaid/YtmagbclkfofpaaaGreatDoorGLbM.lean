/- A plan that was taken and images that were unpacked, as a machine's beginning reads them. No condition. load.Machine: a machine out of bytes, or why there is none. Conditions: texts no longer than Go can hold; the handle of 'error' lies there. -/
import Derived.Test.YtmagbclkfofpaaaGreatDoorHyBeg
import Derived.Test.YtmagbclkfofpaaaGreatDoorGPlT
import Derived.Test.YtmagbclkfofpaaaGreatDoorGLdE
import Derived.Test.YtmagbclkfofpaaaGreatDoorGLdK
set_option linter.unusedVariables false
set_option maxRecDepth 100000
set_option maxHeartbeats 8000000
set_option linter.unusedSimpArgs false
namespace Go.Proofs.YtmagbclkfofpaaaGreatDoor
open Go.RowKit KR Kn
namespace Hy
theorem rd_of_rows {β:Type} {sz:Nat} {W:World} {v:Value} {l:List (List Int)} {f:β→Array Value} {k:List Int→β} (h:RowsAt W sz v l) (hc:Tk.CapV v) (hk:∀ r j u,(f (k r))[j]? =some u→j<sz∧u=.int .i64 (Pl.g r j)):Rd sz f W v (l.map k):=by
 obtain ⟨a,c,rfl,h1,h⟩:=h
 obtain ⟨a',n',c',he,h2,h3⟩:=hc
 injection he with ha hn hc
 subst ha hn hc
 refine ⟨_,_,by rw [List.length_map],by rw [List.length_map];exact h2,h3,?_⟩
 rcases h with rfl|⟨b,off,rfl,hb,hcell⟩
 · exact .inl rfl
 · refine .inr ⟨b,off,rfl,hb,fun i x hx j u hj=> ?_⟩
   rw [List.getElem?_map] at hx
   obtain ⟨r,hr,rfl⟩:=Option.map_eq_some_iff.1 hx
   obtain ⟨hjs,rfl⟩:=hk r j u hj
   have hi:=(List.getElem?_eq_some_iff.1 hr).1
   have:=hcell i j hi hjs
   rw [List.getD_eq_getElem?_getD,hr] at this
   exact this
theorem planR_of {W:World} {v:Value} {P:Pl.Plan} (h:Tk.PlanC W v P):∃ vp vw vc,v=.agg (pcells vp vw vc P.fr)∧∀ W',Tk.Stay W W'→PlanR W' vp vw vc P:=by
 obtain ⟨h1,vp,vw,vc,rfl,hp,hc⟩:=h
 refine ⟨vp,vw,vc,rfl,fun W' hs=> ?_⟩
 replace h1:=h1 W' hs
 clear hs
 obtain ⟨vp',vw',vc',he,h2,h3,h4⟩:=id h1
 injection he with he
 simp only [Array.mk.injEq,List.cons.injEq,and_true,true_and] at he
 obtain ⟨rfl,rfl,rfl⟩:=he
 refine ⟨h1,rd_of_rows (k:=chanOf) h4 hc fun r j u hj=> ?_,rd_of_rows (k:=partOf) h2 hp fun r j u hj=> ?_⟩
 · match j,hj with
   |0,hj=> exact ⟨by decide,(Option.some.inj hj).symm⟩
   |1,hj=> exact ⟨by decide,(Option.some.inj hj).symm⟩
   |2,hj=> exact ⟨by decide,(Option.some.inj hj).symm⟩
   |3,hj=> exact ⟨by decide,(Option.some.inj hj).symm⟩
   |4,hj=> exact ⟨by decide,(Option.some.inj hj).symm⟩
   |n + 5,hj=> simp [Chan.cells] at hj
 · match j,hj with
   |0,hj=> exact ⟨by decide,(Option.some.inj hj).symm⟩
   |1,hj=> exact ⟨by decide,(Option.some.inj hj).symm⟩
   |2,hj=> exact ⟨by decide,(Option.some.inj hj).symm⟩
   |3,hj=> exact ⟨by decide,(Option.some.inj hj).symm⟩
   |n + 4,hj=> simp [Part.cells] at hj
theorem strs_rd {W:World} {v:Value} {l:List ByteArray} (h:StrsAt W v l):Rd 1 strCells W v l:=by
 obtain ⟨a,c,rfl,⟨h1,h2⟩,_,h⟩:=h
 refine ⟨a,c,rfl,h1,h2,?_⟩
 rcases h with h|⟨b,off,rfl,hb,hc⟩
 · exact .inl h
 · refine .inr ⟨b,off,rfl,hb,fun i x hx j u hj=> ?_⟩
   have hi:=(List.getElem?_eq_some_iff.1 hx).1
   match j,hj with
   |0,hj=>
    obtain rfl:Value.string x=u:=Option.some.inj hj
    have:=hc i hi
    rw [List.getD_eq_getElem?_getD,hx] at this
    rw [Nat.mul_one,Nat.add_zero]
    exact this
   |j + 1,hj=> simp [strCells] at hj
theorem imgAt_of {W:World} {v:Value} {l:List (List ByteArray)} (h:ImgsAt W v l):ImgAt W v l:=by
 obtain ⟨a,c,rfl,⟨h1,h2⟩,h⟩:=h
 refine ⟨a,c,rfl,h1,h2,?_⟩
 rcases h with h|⟨b,off,rfl,hb,hc⟩
 · exact .inl h
 · refine .inr ⟨b,off,rfl,hb,fun i r hr=> ?_⟩
   have hi:=(List.getElem?_eq_some_iff.1 hr).1
   obtain ⟨u,hu,hs⟩:=hc i hi
   rw [List.getD_eq_getElem?_getD,hr] at hs
   exact ⟨u,hu,strs_rd hs⟩
theorem take_check {s:List UInt8} {P:Pl.Plan} (h:Pl.take s=.ok P):Pl.check P=0:=by
 unfold Pl.take at h
 split at h
 · unfold Pl.bnd at h
   split at h
   · cases h
   · dsimp only at h
     split at h
     · next h0=> injection h with h;rw [← h];exact h0
     · cases h
 · cases h
theorem rows_few {s:List UInt8} {l:List (List ByteArray)} (h:Ld.unpack s=.ok (Ld.of l)):∀ r ∈ l,r.length≤8796093022207:=by
 intro r hr
 have h1:=(Ld.unpack_ok h).1
 simp only [Ld.fits,Bool.and_eq_true,List.all_eq_true,decide_eq_true_eq] at h1
 have h2:=(h1.2 (Ld.row r) (List.mem_map.2 ⟨r,hr,rfl⟩)).1
 rw [Ld.row,List.length_map] at h2
 omega
end Hy
end Go.Proofs.YtmagbclkfofpaaaGreatDoor
namespace Go.Proofs.YtmagbclkfofpaaaGreatDoor
open Go.RowKit KR Kn RegT3
namespace Hy
def GivesM (im:ByteArray) (w:World) (e:Ending) (w':World):Prop:=
 ∃ (c:Array Value) (ck:Int),e=.returned (.tuple #[.agg c,.int .i64 ck])∧c.size=11∧(∀ u ∈ (Value.agg c).cells.toList,u.oneCell'=true)∧Below w.heap.size w w'∧
   (ck ≠ 0→c=#[.slice none 0 0,.int .i64 0,.slice none 0 0,.slice none 0 0,.slice none 0 0,.int .u64 0,.int .i64 0,.int .i64 0,.slice none 0 0,.slice none 0 0,.int .i64 0])∧
   (ck=0→∃ (P:Pl.Plan) (l:List (List ByteArray)) (y:YL),Pl.check P=0∧Ld.unpack im.data.toList=.ok (Ld.of l)∧l.length=P.ps.length∧c=ycells y (mbegin P l)∧SysAt w' y (mbegin P l))
theorem onesPc {vp vw vc:Value} (h1:vp.oneCell'=true) (h2:vw.oneCell'=true) (h3:vc.oneCell'=true) (fr:Int):∀ u ∈ (Value.agg (pcells vp vw vc fr)).cells.toList,u.oneCell'=true:=by
 intro u hu
 simp only [Value.cells,pcells,List.mem_cons,List.not_mem_nil,or_false] at hu
 rcases hu with rfl|rfl|rfl|rfl <;> first|rfl|assumption
theorem took_cells {s:ByteArray} {w W:World} {e:Ending} (h:Tk.Took s w e W):∃ (vp vw vc:Value) (fr ck:Int),e=.returned (.tuple #[.agg (pcells vp vw vc fr),.int .i64 ck])∧vp.oneCell'=true∧vw.oneCell'=true∧vc.oneCell'=true∧Below w.heap.size w W∧
 (ck=0→∃ P,Pl.check P=0∧fr=P.fr∧∀ W',Tk.Stay W W'→PlanR W' vp vw vc P):=by
 obtain ⟨v,c,rfl,hb,⟨rfl,P,ht,hp⟩|⟨hc,rfl,_⟩⟩:=h
 · obtain ⟨vp,vw,vc,rfl,hR⟩:=planR_of hp
   obtain ⟨h1,h2,h3⟩:=onesPl (hR W fun _ _ _ _ _ _=> rfl)
   exact ⟨vp,vw,vc,_,_,rfl,h1,h2,h3,hb,fun _=> ⟨P,take_check ht,rfl,hR⟩⟩
 · exact ⟨.slice none 0 0,.slice none 0 0,.slice none 0 0,0,c,rfl,rfl,rfl,rfl,hb,fun h=> absurd h hc⟩
theorem Machine (p im:ByteArray) (w:World) (hp:p.size≤140737488355328) (him:im.size≤140737488355328) (hh:Unp.Handle w):Calls Tryz.prog 5 #[.string p,.string im] w (GivesM im w):=by
 have HH:=hU (fun W (hb:Below w.heap.size w W)=> hh.below hb)
 obtain ⟨Wn,hW0,hb0,HR⟩:=nb1 (W:=w) (.cells #[.slice none 0 0,.int .i64 0,.slice none 0 0,.slice none 0 0,.slice none 0 0,.int .u64 0,.int .i64 0,.int .i64 0,.slice none 0 0,.slice none 0 0,.int .i64 0] 33) rfl
 have HB:=hU hb0
 clear hb0 hh
 go_enter Tryz.func5,Tryz.ntmps5
 repeat' (first|(rw [hW0];clear hW0)|go_values|go_skip|go_guarded|(with_reducible refine wg ?_)|go_step|go_upon)
 refine (Tk.Take p _ hp (HH.out _ HB.out)).mono ?_
 rintro er Wn hg
 obtain ⟨vp,vw,vc,fr,c,rfl,h1,h2,h3,hb,hgo⟩:=took_cells hg
 clear hg
 replace HR:=nB hb HR
 replace HB:=nW hb HB
 have HON:=hU (onesPc h1 h2 h3 fr)
 clear hb h1 h2 h3
 obtain ⟨Wo,hWo⟩:∃ Wo,Wo=Wn:=⟨_,rfl⟩
 have HO:Hid (Below Wo.heap.size Wo Wn):=hU (by rw [hWo];exact Below.refl _ _)
 rw [← hWo] at hgo
 have HGO:=hU hgo
 have HRo:Hid (Wo.heap[w.heap.size]? =some (.cells #[.slice none 0 0,.int .i64 0,.slice none 0 0,.slice none 0 0,.slice none 0 0,.int .u64 0,.int .i64 0,.int .i64 0,.slice none 0 0,.slice none 0 0,.int .i64 0] 33 (0,0))):=hU (by rw [hWo];exact HR.out)
 clear hgo hWo
 obtain ⟨b5,hab5,hbz5⟩:=nbz HB
 have hb5:=nlt HR hab5
 obtain ⟨W5,hW5,hba5,HZ5⟩:=nb1 (W:=Wn) (.cells #[.slice none 0 0,.int .i64 0,.slice none 0 0,.slice none 0 0] 27) hab5
 dsimp only
 have hcase:c ≠ 0∨c=0:=by
  by_cases h:c=0
  · exact .inr h
  · exact .inl h
 rcases hcase with hc|rfl
 case' inl=> have e1:(c !=0)=true:=by simpa using hc
 all_goals repeat' (first
  |(rw [hW5,hab5];clear hW5)
  |(refine wpList_store (t:=27) (v:=.agg (pcells vp vw vc fr)) (off:=0) (new:=pcells vp vw vc fr) rfl rfl rfl rfl aggPlan.size HZ5.out rfl (show 0 + 4≤4 by decide) HON.out rfl ?_;intro Wn hp
    have hbb:=Below.put hba5 hp (Nat.le_of_eq hab5)
    replace HR:=nB hbb HR
    replace HO:=hU (HO.out.trans (hbb.mono HO.out.size))
    replace HB:=nW hbb HB
    have HP:=pA hp
    clear hbb hp hba5 HZ5 HON)
  |(refine wpList_store (t:=33) (v:=.agg #[.slice none 0 0,.int .i64 0,.slice none 0 0,.slice none 0 0,.slice none 0 0,.int .u64 0,.int .i64 0,.int .i64 0,.slice none 0 0,.slice none 0 0,.int .i64 0]) (off:=0) (new:=#[.slice none 0 0,.int .i64 0,.slice none 0 0,.slice none 0 0,.slice none 0 0,.int .u64 0,.int .i64 0,.int .i64 0,.slice none 0 0,.slice none 0 0,.int .i64 0]) rfl rfl rfl rfl aggSys.size HR.out rfl (show 0 + 11≤11 by decide) ones_zero rfl ?_;intro Wn hp
    replace HB:=hU (Below.put HB.out hp (Nat.le_refl _))
    replace HR:=pA hp
    clear hp)
  |go_values|go_skip|go_guarded|(with_reducible refine wg ?_)|go_step|go_upon)
 · (try simp only [Exit.inBlock,Exit.then]);refine bodyPost_ret (res_cell_tmp Tryz.results5 aggSys rfl HR.out rfl) rfl ?_
   exact ⟨_,_,rfl,rfl,ones_zero,HB.out,fun _=> rfl,fun h=> absurd h hc⟩
 obtain ⟨P,hck,rfl,hR⟩:=HGO.out rfl
 have HPL:=hU ((hR Wo fun _ _ _ _ _ _=> rfl).below HO.out)
 have HST:Hid (∀ W',Tk.Stay Wo W'→PlanR W' vp vw vc P):=hU hR
 have HCK:=hU hck
 clear HGO hR hck
 refine (Unp.Unpack im _ him (HH.out _ HB.out)).mono ?_
 rintro er Wn ⟨lv,e,rfl,hb,hcase⟩
 replace HR:=nB hb HR
 replace HP:=nB hb HP
 replace HPL:=hU (HPL.out.below hb)
 replace HO:=hU (HO.out.trans (hb.mono HO.out.size))
 replace HB:=nW hb HB
 clear hb
 rcases hcase with ⟨c,hu,rfl,rfl⟩|⟨l,hu,rfl,hI⟩
 · have hc:=Ld.error_ne hu
   have e1:((c:Int) !=0)=true:=by simpa using hc
   have hc0:¬ (c:Int)=0:=by omega
   clear hu
   dsimp only
   repeat' (first
    |(refine wpList_store (t:=33) (v:=.agg #[.slice none 0 0,.int .i64 0,.slice none 0 0,.slice none 0 0,.slice none 0 0,.int .u64 0,.int .i64 0,.int .i64 0,.slice none 0 0,.slice none 0 0,.int .i64 0]) (off:=0) (new:=#[.slice none 0 0,.int .i64 0,.slice none 0 0,.slice none 0 0,.slice none 0 0,.int .u64 0,.int .i64 0,.int .i64 0,.slice none 0 0,.slice none 0 0,.int .i64 0]) rfl rfl rfl rfl aggSys.size HR.out rfl (show 0 + 11≤11 by decide) ones_zero rfl ?_;intro Wn hp
      replace HB:=hU (Below.put HB.out hp (Nat.le_refl _))
      replace HR:=pA hp
      clear hp)
    |go_values|go_skip|go_guarded|(with_reducible refine wg ?_)|go_step|go_upon)
   (try simp only [Exit.inBlock,Exit.then]);refine bodyPost_ret (res_cell_tmp Tryz.results5 aggSys rfl HR.out rfl) rfl ?_
   exact ⟨_,_,rfl,rfl,ones_zero,HB.out,fun _=> rfl,fun h=> absurd h hc0⟩
 · have HU:=hU hu
   have him:=imgAt_of hI
   obtain ⟨ai,ci,rfl,_⟩:=id him
   have HI:=hU him
   clear him hu hI
   obtain ⟨ap,cp,hvp,_,_⟩:=HPL.out.pa.shape
   rw [show (parts P).length=P.ps.length from List.length_map _] at hvp
   subst hvp
   have p0:Wn.cell? ⟨b5,0,none⟩=some (.slice ap P.ps.length cp):=hcell HP.out 0
   by_cases hlen:l.length=P.ps.length
   · have e2:(((l.length:Nat):Int) !=((P.ps.length:Nat):Int))=false:=by rw [hlen];simp
     have HLEN:=hU hlen
     clear hlen
     dsimp only
     repeat' (first
      |(refine wpList_load (t:=27) (v:=.agg (pcells (.slice ap P.ps.length cp) vw vc P.fr)) rfl rfl rfl (run_load_whole aggPlan HP.out rfl) ?_)
      |go_values|go_skip|go_guarded|(with_reducible refine wg ?_)|go_step|go_upon)
     refine (HBegin (.slice ap P.ps.length cp) vw vc (.slice ai l.length ci) P l _ HPL.out (by have:=(Pl.check_zero HCK.out).2.2.2.2.2.2.1;omega) HI.out (rows_few HU.out)).mono ?_
     rintro er Wn hg
     obtain ⟨c,ck,rfl,hcs,hon,hb,hgo⟩:=hg.cells
     have hck:ck=0:=by
      rcases hg with ⟨h,_⟩|⟨_,y,h,_⟩
      · exact absurd HCK.out h
      · injection h with h
        injection h with h
        simp only [Array.mk.injEq,List.cons.injEq,and_true] at h
        injection h.2 with _ h
     clear hg
     subst hck
     replace HR:=nB hb HR
     replace HO:=hU (HO.out.trans (hb.mono HO.out.size))
     replace HB:=nW hb HB
     have HCS:=hU hcs
     have HON:=hU hon
     have HGO:=hU hgo
     clear hb hcs hon hgo p0
     dsimp only
     repeat' (first
      |(refine wpList_store (t:=33) (v:=.agg c) (off:=0) (new:=c) rfl rfl rfl rfl aggSys.size HR.out HCS.out (show 0 + 11≤11 by decide) HON.out (splice_whole (by rw [show (Value.agg c).cells.size=11 from HCS.out];rfl)) ?_;intro Wn hp
        have HQ:=hU hp
        replace HB:=hU (Below.put HB.out hp (Nat.le_refl _))
        have HR0:=HR
        replace HR:=pA hp
        clear hp)
      |go_values|go_skip|go_guarded|(with_reducible refine wg ?_)|go_step|go_upon)
     (try simp only [Exit.inBlock,Exit.then]);refine bodyPost_ret (res_cell_tmp Tryz.results5 aggSys rfl HR.out HCS.out) rfl ?_
     refine ⟨_,_,rfl,HCS.out,HON.out,HB.out,fun h=> absurd rfl h,fun _=> ?_⟩
     obtain ⟨_,y,rfl,hs,hv⟩:=HGO.out rfl
     have hst:PlanR Wn y.vp y.vw y.vc (mbegin P l).p:=by
      rw [hv.1,hv.2.1,hv.2.2.1]
      refine HST.out Wn fun k c T hc h1 h2=> ?_
      have hne:k ≠ w.heap.size:=fun he=> by
       subst he
       rw [HRo.out] at hc
       injection hc with hc
       injection hc with _ hT _
       exact h2 hT.symm
      rw [HQ.out.oth k hne,HO.out.block k (hlt hc)]
     exact ⟨P,l,y,HCK.out,HU.out,HLEN.out,rfl,hs.put HR0.out HQ.out hst noSys (by decide) (by decide) (by decide)⟩
   · have e2:(((l.length:Nat):Int) !=((P.ps.length:Nat):Int))=true:=by simp only [bne_iff_ne,ne_eq];omega
     clear hlen
     dsimp only
     repeat' (first
      |(refine wpList_store (t:=33) (v:=.agg #[.slice none 0 0,.int .i64 0,.slice none 0 0,.slice none 0 0,.slice none 0 0,.int .u64 0,.int .i64 0,.int .i64 0,.slice none 0 0,.slice none 0 0,.int .i64 0]) (off:=0) (new:=#[.slice none 0 0,.int .i64 0,.slice none 0 0,.slice none 0 0,.slice none 0 0,.int .u64 0,.int .i64 0,.int .i64 0,.slice none 0 0,.slice none 0 0,.int .i64 0]) rfl rfl rfl rfl aggSys.size HR.out rfl (show 0 + 11≤11 by decide) ones_zero rfl ?_;intro Wn hp
        replace HB:=hU (Below.put HB.out hp (Nat.le_refl _))
        replace HR:=pA hp
        clear hp)
      |go_values|go_skip|go_guarded|(with_reducible refine wg ?_)|go_step|go_upon)
     (try simp only [Exit.inBlock,Exit.then]);refine bodyPost_ret (res_cell_tmp Tryz.results5 aggSys rfl HR.out rfl) rfl ?_
     exact ⟨_,_,rfl,rfl,ones_zero,HB.out,fun _=> rfl,fun h=> absurd h (by decide)⟩
end Hy
end Go.Proofs.YtmagbclkfofpaaaGreatDoor
