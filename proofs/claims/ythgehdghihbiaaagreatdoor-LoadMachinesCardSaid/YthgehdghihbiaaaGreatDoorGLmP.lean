/- What a plan's bytes and images' come to: a machine, or why there is none, in plain Lean. No condition. load.Machine: a machine out of bytes, or why there is none. Conditions: texts no longer than Go can hold; the handle of 'error' lies there. -/
import Derived.Test.YthgehdghihbiaaaGreatDoorGLbM
import Derived.Test.YthgehdghihbiaaaGreatDoorGLdK
set_option linter.unusedVariables false
set_option maxRecDepth 100000
set_option maxHeartbeats 8000000
set_option linter.unusedSimpArgs false
namespace Go.Proofs.YthgehdghihbiaaaGreatDoor
open Go.RowKit KR Kn
namespace Pl
def Pos {α:Type} (x:Except Nat α):Prop:=∀ n,x=.error n→n ≠ 0
theorem pos_ok {α:Type} (a:α):Pos (.ok a:Except Nat α):=fun n h=> nomatch h
theorem pos_err {α:Type} {n:Nat} (h:n ≠ 0):Pos (.error n:Except Nat α):=fun m hm=> by injection hm with hm;omega
theorem pos_bnd {α β:Type} {x:Except Nat α} {f:α→Except Nat β} (hx:Pos x) (hf:∀ a,Pos (f a)):Pos (bnd x f):=by
 cases x with
 |error n=> exact pos_err (hx n rfl)
 |ok a=> exact hf a
theorem pos_num (m:Nat):∀ l,Pos (num m l)
 |[]=> pos_err (by decide)
 |[_]=> pos_err (by decide)
 |a::b::t=> by
  simp only [num]
  split
  · exact pos_err (by decide)
  · exact pos_ok _
theorem pos_anys:∀ n l,Pos (anys n l)
 |0,l=> pos_ok _
 |n + 1,l=> by
  simp only [anys]
  cases h:num 65536 l with
  |error e=> exact pos_err (pos_num _ _ e h)
  |ok x=>
   obtain ⟨x,t⟩:=x
   dsimp only
   cases h2:anys n t with
   |error e=> exact pos_err (pos_anys n t e h2)
   |ok y=> exact pos_ok _
theorem pos_rows {sz:Nat}:∀ n l,Pos (rowsN sz n l)
 |0,l=> pos_ok _
 |n + 1,l=> by
  simp only [rowsN]
  cases h:anys sz l with
  |error e=> exact pos_err (pos_anys _ _ e h)
  |ok x=>
   obtain ⟨x,t⟩:=x
   dsimp only
   cases h2:rowsN sz n t with
   |error e=> exact pos_err (pos_rows n t e h2)
   |ok y=> exact pos_ok _
theorem pos_wins:∀ n l,Pos (winsN n l)
 |0,l=> pos_ok _
 |n + 1,l=> by
  simp only [winsN]
  cases h:num 8 l with
  |error e=> exact pos_err (pos_num _ _ e h)
  |ok x=>
   obtain ⟨x,t⟩:=x
   dsimp only
   cases h1:rowsN 3 x.toNat t with
   |error e=> exact pos_err (pos_rows _ _ e h1)
   |ok y=>
    obtain ⟨y,u⟩:=y
    dsimp only
    cases h2:winsN n u with
    |error e=> exact pos_err (pos_wins n u e h2)
    |ok z=> exact pos_ok _
theorem pos_parse (l:List UInt8):Pos (parse l):=by
 unfold parse
 refine pos_bnd (pos_num _ _) (fun x=> pos_bnd (pos_rows _ _) (fun y=> ?_))
 unfold fin0
 refine pos_bnd (pos_num _ _) (fun z=> ?_)
 unfold fin1
 refine pos_bnd (pos_num _ _) (fun q=> ?_)
 unfold fin2
 refine pos_bnd (pos_wins _ _) (fun r=> ?_)
 unfold fin3
 refine pos_bnd (pos_num _ _) (fun t=> ?_)
 unfold fin4
 refine pos_bnd (pos_rows _ _) (fun u=> ?_)
 unfold fin5
 dsimp only
 split
 · exact pos_ok _
 · exact pos_err (by decide)
theorem rowE_nn (np fr:Int):∀ (l:List (List Int)) (b:Int),0≤rowE np fr l b
 |[],_=> Int.le_refl _
 |r::l,b=> by
  rw [rowE]
  split
  · exact rowE_nn np fr l _
  · unfold winE
    split
    · decide
    · split <;> decide
theorem winsE_nn (np fr:Int):∀ ws:List (List (List Int)),0≤winsE np fr ws
 |[]=> Int.le_refl _
 |l::ws=> by
  rw [winsE]
  split
  · exact winsE_nn np fr ws
  · exact rowE_nn _ _ _ _
theorem check_nn (P:Plan):0≤check P:=by
 unfold check
 have:=winsE_nn P.ps.length P.fr P.ws
 split
 · decide
 · split
   · decide
   · split
     · decide
     · split
       · exact this
       · split <;> decide
theorem pos_take (s:List UInt8):Pos (take s):=by
 unfold take
 split
 · refine pos_bnd (pos_parse _) (fun P=> ?_)
   split
   · exact pos_ok _
   · exact pos_err (by have:=check_nn P;omega)
 · exact pos_err (by decide)
theorem same_err {s:List UInt8} {c d:Int} (h1:take s=.error c.toNat) (h2:take s=.error d.toNat):d=c:=by
 have hp:=pos_take s _ h1
 rw [h1] at h2
 injection h2 with h2
 omega
end Pl
namespace Hy
def MRes (p im:ByteArray) (ck:Int) (r:Option (Pl.Plan × List (List ByteArray))):Prop:=
 (ck ≠ 0∧r=none∧Pl.take p.data.toList=.error ck.toNat)∨
 ∃ P,Pl.take p.data.toList=.ok P∧((∃ c:Nat,Ld.unpack im.data.toList=.error c∧ck=c∧c ≠ 0∧r=none)∨∃ l,Ld.unpack im.data.toList=.ok (Ld.of l)∧((l.length ≠ P.ps.length∧ck=1∧r=none)∨(l.length=P.ps.length∧ck=0∧r=some (P,l))))
theorem MRes.same {p im:ByteArray} {a b:Int} {r s:Option (Pl.Plan × List (List ByteArray))} (h:MRes p im a r) (g:MRes p im b s):a=b∧r=s:=by
 rcases h with ⟨h1,rfl,h2⟩|⟨P,hP,h⟩
 · rcases g with ⟨g1,rfl,g2⟩|⟨Q,hQ,g⟩
   · exact ⟨(Pl.same_err h2 g2).symm,rfl⟩
   · rw [h2] at hQ
     cases hQ
 · rcases g with ⟨g1,rfl,g2⟩|⟨Q,hQ,g⟩
   · rw [hP] at g2
     cases g2
   · rw [hP] at hQ
     injection hQ with hQ
     subst hQ
     rcases h with ⟨c,h1,rfl,_,rfl⟩|⟨l,h1,h⟩
     · rcases g with ⟨d,g1,rfl,_,rfl⟩|⟨m,g1,g⟩
       · rw [h1] at g1
         injection g1 with g1
         subst g1
         exact ⟨rfl,rfl⟩
       · rw [h1] at g1
         cases g1
     · rcases g with ⟨d,g1,rfl,_,rfl⟩|⟨m,g1,g⟩
       · rw [h1] at g1
         cases g1
       · rw [h1] at g1
         injection g1 with g1
         obtain rfl:=Ld.of_inj g1
         rcases h with ⟨h2,rfl,rfl⟩|⟨h2,rfl,rfl⟩
         · rcases g with ⟨g2,rfl,rfl⟩|⟨g2,rfl,rfl⟩
           · exact ⟨rfl,rfl⟩
           · exact absurd g2 h2
         · rcases g with ⟨g2,rfl,rfl⟩|⟨g2,rfl,rfl⟩
           · exact absurd h2 g2
           · exact ⟨rfl,rfl⟩
def GivesL (p im:ByteArray) (w:World) (e:Ending) (w':World):Prop:=
 ∃ (c:Array Value) (ck:Int) (r:Option (Pl.Plan × List (List ByteArray))),e=.returned (.tuple #[.agg c,.int .i64 ck])∧c.size=11∧(∀ u ∈ (Value.agg c).cells.toList,u.oneCell'=true)∧Below w.heap.size w w'∧MRes p im ck r∧
   (r=none→c=#[.slice none 0 0,.int .i64 0,.slice none 0 0,.slice none 0 0,.slice none 0 0,.int .u64 0,.int .i64 0,.int .i64 0,.slice none 0 0,.slice none 0 0,.int .i64 0])∧
   (∀ P l,r=some (P,l)→Pl.check P=0∧∃ y:YL,c=ycells y (mbegin P l)∧SysAt w' y (mbegin P l)∧ImgAt w' y.im l)
theorem took_cells2 {s:ByteArray} {w W:World} {e:Ending} (h:Tk.Took s w e W):∃ (vp vw vc:Value) (fr ck:Int),e=.returned (.tuple #[.agg (pcells vp vw vc fr),.int .i64 ck])∧vp.oneCell'=true∧vw.oneCell'=true∧vc.oneCell'=true∧Below w.heap.size w W∧
 (ck ≠ 0→Pl.take s.data.toList=.error ck.toNat)∧
 (ck=0→∃ P,Pl.check P=0∧fr=P.fr∧(∀ W',Tk.Stay W W'→PlanR W' vp vw vc P)∧Pl.take s.data.toList=.ok P):=by
 obtain ⟨v,c,rfl,hb,⟨rfl,P,ht,hp⟩|⟨hc,rfl,he⟩⟩:=h
 · obtain ⟨vp,vw,vc,rfl,hR⟩:=planR_of hp
   obtain ⟨h1,h2,h3⟩:=onesPl (hR W fun _ _ _ _ _ _=> rfl)
   exact ⟨vp,vw,vc,_,_,rfl,h1,h2,h3,hb,fun h=> absurd rfl h,fun _=> ⟨P,take_check ht,rfl,hR,ht⟩⟩
 · exact ⟨.slice none 0 0,.slice none 0 0,.slice none 0 0,0,c,rfl,rfl,rfl,rfl,hb,fun _=> he,fun h=> absurd h hc⟩
end Hy
end Go.Proofs.YthgehdghihbiaaaGreatDoor
namespace Go.Proofs.YthgehdghihbiaaaGreatDoor
open Go.RowKit KR Kn RegT3
namespace Hy
theorem onesPc {vp vw vc:Value} (h1:vp.oneCell'=true) (h2:vw.oneCell'=true) (h3:vc.oneCell'=true) (fr:Int):∀ u ∈ (Value.agg (pcells vp vw vc fr)).cells.toList,u.oneCell'=true:=by
 intro u hu
 simp only [Value.cells,pcells,List.mem_cons,List.not_mem_nil,or_false] at hu
 rcases hu with rfl|rfl|rfl|rfl <;> first|rfl|assumption
theorem Machine2 (p im:ByteArray) (w:World) (hp:p.size≤140737488355328) (him:im.size≤140737488355328) (hh:Unp.Handle w):Calls Tryz.prog 5 #[.string p,.string im] w (GivesL p im w):=by
 have HH:=hU (fun W (hb:Below w.heap.size w W)=> hh.below hb)
 obtain ⟨Wn,hW0,hb0,HR⟩:=nb1 (W:=w) (.cells #[.slice none 0 0,.int .i64 0,.slice none 0 0,.slice none 0 0,.slice none 0 0,.int .u64 0,.int .i64 0,.int .i64 0,.slice none 0 0,.slice none 0 0,.int .i64 0] 33) rfl
 have HB:=hU hb0
 clear hb0 hh
 go_enter Tryz.func5,Tryz.ntmps5
 repeat' (first|(rw [hW0];clear hW0)|go_values|go_skip|go_guarded|(with_reducible refine wg ?_)|go_step|go_upon)
 refine (Tk.Take p _ hp (HH.out _ HB.out)).mono ?_
 rintro er Wn hg
 obtain ⟨vp,vw,vc,fr,c,rfl,h1,h2,h3,hb,hte,hgo⟩:=took_cells2 hg
 have HTE:=hU hte
 clear hg
 replace HR:=nB hb HR
 replace HB:=nW hb HB
 have HON:=hU (onesPc h1 h2 h3 fr)
 clear hb h1 h2 h3 hte
 obtain ⟨Wo,hWo⟩:∃ Wo,Wo=Wn:=⟨_,rfl⟩
 have HO:Hid (Below Wo.heap.size Wo Wn):=hU (by rw [hWo];exact Below.refl _ _)
 rw [← hWo] at hgo
 have HGO:=hU hgo
 have HRo:Hid (Wo.heap[w.heap.size]? =some (.cells #[.slice none 0 0,.int .i64 0,.slice none 0 0,.slice none 0 0,.slice none 0 0,.int .u64 0,.int .i64 0,.int .i64 0,.slice none 0 0,.slice none 0 0,.int .i64 0] 33 (0,0))):=hU (by rw [hWo];exact HR.out)
 clear hgo hWo
 obtain ⟨b5,hab5,hbz5⟩:=nbz HB
 have hb5:=nlt HR hab5
 obtain ⟨W5,hW5,hba5,HZ5⟩:=nb1 (W:=Wn) (.cells #[.slice none 0 0,.int .i64 0,.slice none 0 0,.slice none 0 0] 27) hab5
 dsimp only
 have hcase:c ≠ 0∨c=0:=by
  by_cases h:c=0
  · exact .inr h
  · exact .inl h
 rcases hcase with hc|rfl
 case' inl=> have e1:(c !=0)=true:=by simpa using hc
 all_goals repeat' (first
  |(rw [hW5,hab5];clear hW5)
  |(refine wpList_store (t:=27) (v:=.agg (pcells vp vw vc fr)) (off:=0) (new:=pcells vp vw vc fr) rfl rfl rfl rfl aggPlan.size HZ5.out rfl (show 0 + 4≤4 by decide) HON.out rfl ?_;intro Wn hp
    have hbb:=Below.put hba5 hp (Nat.le_of_eq hab5)
    replace HR:=nB hbb HR
    replace HO:=hU (HO.out.trans (hbb.mono HO.out.size))
    replace HB:=nW hbb HB
    have HP:=pA hp
    clear hbb hp hba5 HZ5 HON)
  |(refine wpList_store (t:=33) (v:=.agg #[.slice none 0 0,.int .i64 0,.slice none 0 0,.slice none 0 0,.slice none 0 0,.int .u64 0,.int .i64 0,.int .i64 0,.slice none 0 0,.slice none 0 0,.int .i64 0]) (off:=0) (new:=#[.slice none 0 0,.int .i64 0,.slice none 0 0,.slice none 0 0,.slice none 0 0,.int .u64 0,.int .i64 0,.int .i64 0,.slice none 0 0,.slice none 0 0,.int .i64 0]) rfl rfl rfl rfl aggSys.size HR.out rfl (show 0 + 11≤11 by decide) ones_zero rfl ?_;intro Wn hp
    replace HB:=hU (Below.put HB.out hp (Nat.le_refl _))
    replace HR:=pA hp
    clear hp)
  |go_values|go_skip|go_guarded|(with_reducible refine wg ?_)|go_step|go_upon)
 · (try simp only [Exit.inBlock,Exit.then]);refine bodyPost_ret (res_cell_tmp Tryz.results5 aggSys rfl HR.out rfl) rfl ?_
   exact ⟨_,_,none,rfl,rfl,ones_zero,HB.out,.inl ⟨hc,rfl,HTE.out hc⟩,fun _=> rfl,fun P l h=> nomatch h⟩
 obtain ⟨P,hck,rfl,hR,htk⟩:=HGO.out rfl
 have HTK:=hU htk
 have HPL:=hU ((hR Wo fun _ _ _ _ _ _=> rfl).below HO.out)
 have HST:Hid (∀ W',Tk.Stay Wo W'→PlanR W' vp vw vc P):=hU hR
 have HCK:=hU hck
 clear HGO hR hck htk HTE
 refine (Unp.Unpack im _ him (HH.out _ HB.out)).mono ?_
 rintro er Wn ⟨lv,e,rfl,hb,hcase⟩
 replace HR:=nB hb HR
 replace HP:=nB hb HP
 replace HPL:=hU (HPL.out.below hb)
 replace HO:=hU (HO.out.trans (hb.mono HO.out.size))
 replace HB:=nW hb HB
 clear hb
 rcases hcase with ⟨c,hu,rfl,rfl⟩|⟨l,hu,rfl,hI⟩
 · have hc:=Ld.error_ne hu
   have e1:((c:Int) !=0)=true:=by simpa using hc
   have HUE:=hU hu
   clear hu
   dsimp only
   repeat' (first
    |(refine wpList_store (t:=33) (v:=.agg #[.slice none 0 0,.int .i64 0,.slice none 0 0,.slice none 0 0,.slice none 0 0,.int .u64 0,.int .i64 0,.int .i64 0,.slice none 0 0,.slice none 0 0,.int .i64 0]) (off:=0) (new:=#[.slice none 0 0,.int .i64 0,.slice none 0 0,.slice none 0 0,.slice none 0 0,.int .u64 0,.int .i64 0,.int .i64 0,.slice none 0 0,.slice none 0 0,.int .i64 0]) rfl rfl rfl rfl aggSys.size HR.out rfl (show 0 + 11≤11 by decide) ones_zero rfl ?_;intro Wn hp
      replace HB:=hU (Below.put HB.out hp (Nat.le_refl _))
      replace HR:=pA hp
      clear hp)
    |go_values|go_skip|go_guarded|(with_reducible refine wg ?_)|go_step|go_upon)
   (try simp only [Exit.inBlock,Exit.then]);refine bodyPost_ret (res_cell_tmp Tryz.results5 aggSys rfl HR.out rfl) rfl ?_
   exact ⟨_,_,none,rfl,rfl,ones_zero,HB.out,.inr ⟨P,HTK.out,.inl ⟨_,HUE.out,rfl,hc,rfl⟩⟩,fun _=> rfl,fun P l h=> nomatch h⟩
 · have HU:=hU hu
   obtain ⟨Wu,hWu⟩:∃ Wu,Wu=Wn:=⟨_,rfl⟩
   have HOU:Hid (Below Wu.heap.size Wu Wn):=hU (by rw [hWu];exact Below.refl _ _)
   have HRu:Hid (Wu.heap[w.heap.size]? =some (.cells #[.slice none 0 0,.int .i64 0,.slice none 0 0,.slice none 0 0,.slice none 0 0,.int .u64 0,.int .i64 0,.int .i64 0,.slice none 0 0,.slice none 0 0,.int .i64 0] 33 (0,0))):=hU (by rw [hWu];exact HR.out)
   have HIO:Hid (Unp.ImgO Wu lv l):=hU (by rw [hWu];exact hI)
   have him:=imgAt_of hI.at
   clear hWu
   obtain ⟨ai,ci,rfl,_⟩:=id him
   have HI:=hU him
   clear him hu hI
   obtain ⟨ap,cp,hvp,_,_⟩:=HPL.out.pa.shape
   rw [show (parts P).length=P.ps.length from List.length_map _] at hvp
   subst hvp
   have p0:Wn.cell? ⟨b5,0,none⟩=some (.slice ap P.ps.length cp):=hcell HP.out 0
   by_cases hlen:l.length=P.ps.length
   · have e2:(((l.length:Nat):Int) !=((P.ps.length:Nat):Int))=false:=by rw [hlen];simp
     have HLEN:=hU hlen
     clear hlen
     dsimp only
     repeat' (first
      |(refine wpList_load (t:=27) (v:=.agg (pcells (.slice ap P.ps.length cp) vw vc P.fr)) rfl rfl rfl (run_load_whole aggPlan HP.out rfl) ?_)
      |go_values|go_skip|go_guarded|(with_reducible refine wg ?_)|go_step|go_upon)
     refine (HBegin (.slice ap P.ps.length cp) vw vc (.slice ai l.length ci) P l _ HPL.out (by have:=(Pl.check_zero HCK.out).2.2.2.2.2.2.1;omega) HI.out (rows_few HU.out)).mono ?_
     rintro er Wn hg
     obtain ⟨c,ck,rfl,hcs,hon,hb,hgo⟩:=hg.cells
     have hck:ck=0:=by
      rcases hg with ⟨h,_⟩|⟨_,y,h,_⟩
      · exact absurd HCK.out h
      · injection h with h
        injection h with h
        simp only [Array.mk.injEq,List.cons.injEq,and_true] at h
        injection h.2 with _ h
     clear hg
     subst hck
     replace HR:=nB hb HR
     replace HO:=hU (HO.out.trans (hb.mono HO.out.size))
     replace HOU:=hU (HOU.out.trans (hb.mono HOU.out.size))
     replace HB:=nW hb HB
     have HCS:=hU hcs
     have HON:=hU hon
     have HGO:=hU hgo
     clear hb hcs hon hgo p0
     dsimp only
     repeat' (first
      |(refine wpList_store (t:=33) (v:=.agg c) (off:=0) (new:=c) rfl rfl rfl rfl aggSys.size HR.out HCS.out (show 0 + 11≤11 by decide) HON.out (splice_whole (by rw [show (Value.agg c).cells.size=11 from HCS.out];rfl)) ?_;intro Wn hp
        have HQ:=hU hp
        replace HB:=hU (Below.put HB.out hp (Nat.le_refl _))
        have HR0:=HR
        replace HR:=pA hp
        clear hp)
      |go_values|go_skip|go_guarded|(with_reducible refine wg ?_)|go_step|go_upon)
     (try simp only [Exit.inBlock,Exit.then]);refine bodyPost_ret (res_cell_tmp Tryz.results5 aggSys rfl HR.out HCS.out) rfl ?_
     refine ⟨_,_,some (P,l),rfl,HCS.out,HON.out,HB.out,.inr ⟨P,HTK.out,.inr ⟨l,HU.out,.inr ⟨HLEN.out,rfl,rfl⟩⟩⟩,(fun h=> nomatch h),fun P' l' he=> ?_⟩
     obtain ⟨rfl,rfl⟩:=Prod.mk.inj (Option.some.inj he)
     obtain ⟨_,y,rfl,hs,hv⟩:=HGO.out rfl
     have hst:PlanR Wn y.vp y.vw y.vc (mbegin P l).p:=by
      rw [hv.1,hv.2.1,hv.2.2.1]
      refine HST.out Wn fun k c T hc h1 h2=> ?_
      have hne:k ≠ w.heap.size:=fun he=> by
       subst he
       rw [HRo.out] at hc
       injection hc with hc
       injection hc with _ hT _
       exact h2 hT.symm
      rw [HQ.out.oth k hne,HO.out.block k (hlt hc)]
     have him2:ImgAt Wn (.slice ai l.length ci) l:=imgAt_of (HIO.out.stay (fun k c T hc hT=> by
      have hne:k ≠ w.heap.size:=fun he=> by
       subst he
       rw [HRu.out] at hc
       injection hc with hc
       injection hc with _ hT2 _
       subst hT2
       rcases hT with h|h <;> exact absurd h (by decide)
      rw [HQ.out.oth k hne,HOU.out.block k (hlt hc)])).at
     exact ⟨HCK.out,y,rfl,hs.put HR0.out HQ.out hst noSys (by decide) (by decide) (by decide),by rw [hv.2.2.2];exact him2⟩
   · have e2:(((l.length:Nat):Int) !=((P.ps.length:Nat):Int))=true:=by simp only [bne_iff_ne,ne_eq];omega
     have HNL:=hU hlen
     clear hlen
     dsimp only
     repeat' (first
      |(refine wpList_store (t:=33) (v:=.agg #[.slice none 0 0,.int .i64 0,.slice none 0 0,.slice none 0 0,.slice none 0 0,.int .u64 0,.int .i64 0,.int .i64 0,.slice none 0 0,.slice none 0 0,.int .i64 0]) (off:=0) (new:=#[.slice none 0 0,.int .i64 0,.slice none 0 0,.slice none 0 0,.slice none 0 0,.int .u64 0,.int .i64 0,.int .i64 0,.slice none 0 0,.slice none 0 0,.int .i64 0]) rfl rfl rfl rfl aggSys.size HR.out rfl (show 0 + 11≤11 by decide) ones_zero rfl ?_;intro Wn hp
        replace HB:=hU (Below.put HB.out hp (Nat.le_refl _))
        replace HR:=pA hp
        clear hp)
      |go_values|go_skip|go_guarded|(with_reducible refine wg ?_)|go_step|go_upon)
     (try simp only [Exit.inBlock,Exit.then]);refine bodyPost_ret (res_cell_tmp Tryz.results5 aggSys rfl HR.out rfl) rfl ?_
     exact ⟨_,_,none,rfl,rfl,ones_zero,HB.out,.inr ⟨P,HTK.out,.inr ⟨l,HU.out,.inl ⟨HNL.out,rfl,rfl⟩⟩⟩,fun _=> rfl,fun P l h=> nomatch h⟩
end Hy
end Go.Proofs.YthgehdghihbiaaaGreatDoor
