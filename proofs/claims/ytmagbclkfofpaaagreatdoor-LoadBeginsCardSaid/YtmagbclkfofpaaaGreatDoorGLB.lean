/- LoadBegins: a machine that begins has a plan that may be, and as many partitions as rows; at the cycle 0. Conditions: texts no longer than Go can hold; the handle of 'error' lies there. What a law's row asks behind its walk: a law that answers true and lays only new memory. No condition. The variable errors.errorType as the rows list it, and a world that holds it. No condition. How long a string among the arguments is: by the form's reach, and by the bound of the second form. No condition. The card of LoadBegins: a machine that begins has a plan that may be, and as many partitions as rows, at the cycle 0; for every bytes. -/
import Derived.Test.YtmagbclkfofpaaaGreatDoorGLbM
import Derived.Test.YtmagbclkfofpaaaGreatDoorHyRCk
import Derived.Test.YtmagbclkfofpaaaGreatDoorCards
import Derived.Test.YtmagbclkfofpaaaGreatDoorTie
import Derived.Deep.DeepHandedRow
import Derived.LaidLaws
import Derived.LaidHandle
import Derived.Test.YtmagbclkfofpaaaGreatDoorRows
import Derived.SizedLaws
set_option linter.unusedVariables false
set_option maxRecDepth 100000
set_option maxHeartbeats 8000000
set_option linter.unusedSimpArgs false
namespace Go.Proofs.YtmagbclkfofpaaaGreatDoor
open Go.RowKit KR Kn RegT3
namespace Hy
theorem of_len {l m:List (List ByteArray)} (h:Ld.of l=Ld.of m):l.length=m.length:=by
 have:=congrArg List.length h
 unfold Ld.of at this
 rwa [List.length_map,List.length_map] at this
theorem LLoadBegins (p im:ByteArray) (w:World) (hp:p.size≤140737488355328) (him:im.size≤140737488355328) (hh:Unp.Handle w):Calls Tryz.prog 3 #[.string p,.string im] w (Gives (.bool true) w):=by
 have HH:=hU (fun W (hb:Below w.heap.size w W)=> hh.below hb)
 clear hh
 go_enter Tryz.func3,Tryz.ntmps3
 repeat' (first|go_values|go_skip|go_guarded|(with_reducible refine wg ?_)|go_step|go_upon)
 refine (Load.shown _).mono ?_
 rintro er Wn ⟨rfl,hb⟩
 have HB:=hU hb
 clear hb
 dsimp only
 repeat' (first|go_values|go_skip|go_guarded|(with_reducible refine wg ?_)|go_step|go_upon)
 refine (Machine p im _ hp him (HH.out _ HB.out)).mono ?_
 rintro er Wn ⟨c,ck,rfl,hcs,hon,hb,hz,hgo⟩
 replace HB:=nW hb HB
 have HCS:=hU hcs
 have HON:=hU hon
 obtain ⟨Wo,hWo⟩:∃ Wo,Wo=Wn:=⟨_,rfl⟩
 have HO:Hid (Below Wo.heap.size Wo Wn):=hU (by rw [hWo];exact Below.refl _ _)
 rw [← hWo] at hgo
 have HGO:=hU hgo
 clear hb hcs hon hWo hgo
 obtain ⟨b5,hab5,hbz5⟩:=nbz HB
 obtain ⟨W5,hW5,hba5,HZ5⟩:=nb1 (W:=Wn) (.cells #[.slice none 0 0,.int .i64 0,.slice none 0 0,.slice none 0 0,.slice none 0 0,.int .u64 0,.int .i64 0,.int .i64 0,.slice none 0 0,.slice none 0 0,.int .i64 0] 33) hab5
 dsimp only
 by_cases hck:ck=0
 · subst hck
   obtain ⟨P,l,y,hck,hu,hlen,rfl,hs⟩:=HGO.out rfl
   obtain ⟨m,hm⟩:∃ m,mbegin P l=m:=⟨_,rfl⟩
   have hmp:m.p=P:=by rw [← hm];rfl
   have hmn:m.now=0:=by rw [← hm];rfl
   have hml:m.seats.length=P.ps.length:=by rw [← hm];unfold mbegin;simp
   rw [hm] at hs HCS HON
   rw [hm]
   have HS:=hU (hs.below HO.out)
   have HCK:=hU hck
   have HUN:=hU hu
   have HLEN:=hU hlen
   have HMP:=hU hmp
   have HMN:=hU hmn
   have HML:=hU hml
   clear hck hu hlen hs hm HGO HO hz hmp hmn hml
   repeat' (first
    |(rw [hW5,hab5];clear hW5)
    |(refine wpList_store (t:=33) (v:=.agg (ycells y m)) (off:=0) (new:=ycells y m) rfl rfl rfl rfl aggSys.size HZ5.out rfl (show 0 + 11≤11 by decide) HON.out rfl ?_;intro Wn hp
      have hbb:=Below.put hba5 hp (Nat.le_of_eq hab5)
      replace HB:=nW hbb HB
      have HQ:=pA hp
      replace HS:=hU (HS.out.below hbb)
      clear hbb hp hba5 HZ5 HON HCS)
    |go_values|go_skip|go_guarded|(with_reducible refine wg ?_)|go_step|go_upon)
   refine (Unp.Unpack im _ him (HH.out _ HB.out)).mono ?_
   rintro er Wn ⟨lv,e,rfl,hb,⟨c,hu2,rfl,rfl⟩|⟨l2,hu2,rfl,hI⟩⟩
   · have:=hu2.symm.trans HUN.out
     cases this
   · have hll:l2.length=P.ps.length:=(of_len (by have:=hu2.symm.trans HUN.out;injection this)).trans HLEN.out
     obtain ⟨ai,ci,rfl,_⟩:=imgAt_of hI
     replace HQ:=nB hb HQ
     replace HS:=hU (HS.out.below hb)
     replace HB:=nW hb HB
     clear hb hu2 hI
     have hpl:PlanAt Wn (.agg (pcells y.vp y.vw y.vc m.p.fr)) P:=by have:=HS.out.pl.pl;rw [HMP.out] at this ⊢;exact this
     have HPL:=hU hpl
     clear hpl
     rw [hll]
     clear hll
     dsimp only
     have d0:Wn.cell? ⟨b5,0,none⟩=some y.vp:=hcell HQ.out 0
     have d1:Wn.cell? ⟨b5,1,none⟩=some (.int .i64 m.p.fr):=hcell HQ.out 1
     have d2:Wn.cell? ⟨b5,2,none⟩=some y.vw:=hcell HQ.out 2
     have d3:Wn.cell? ⟨b5,3,none⟩=some y.vc:=hcell HQ.out 3
     repeat' (first|go_skip|go_values|go_skip|go_guarded|(with_reducible refine wg ?_)|go_step|go_upon)
     clear d0 d1 d2 d3
     refine (RfO.CheckOk _ P _ HPL.out HCK.out).mono ?_
     rintro er Wn ⟨rfl,hb⟩
     replace HQ:=nB hb HQ
     replace HS:=hU (HS.out.below hb)
     replace HB:=nW hb HB
     clear hb HPL
     obtain ⟨a8,c8,hse,_,_⟩:=HS.out.se.1.shape
     rw [HS.out.len.1,HML.out] at hse
     obtain ⟨ap,cp,hvp,_,_⟩:=HS.out.pl.pa.shape
     rw [show (parts m.p).length=P.ps.length by rw [HMP.out];exact List.length_map _] at hvp
     have d8:Wn.cell? ⟨b5,8,none⟩=some (.slice a8 P.ps.length c8):=by rw [← hse];exact hcell HQ.out 8
     have d0:Wn.cell? ⟨b5,0,none⟩=some (.slice ap P.ps.length cp):=by rw [← hvp];exact hcell HQ.out 0
     have d5:Wn.cell? ⟨b5,5,none⟩=some (.int .u64 0):=by rw [← HMN.out];exact hcell HQ.out 5
     have e1:(((P.ps.length:Nat):Int)==((P.ps.length:Nat):Int))=true:=beq_self_eq_true _
     clear hse hvp
     dsimp only
     repeat' (first|go_skip|go_values|go_skip|go_guarded|(with_reducible refine wg ?_)|go_step|go_upon)
     go_ret
     exact gives_of rfl HB.out
 · have e1:(ck !=0)=true:=by simpa using hck
   obtain rfl:=hz hck
   clear HGO HO hz
   repeat' (first
    |(rw [hW5,hab5];clear hW5)
    |(refine wpList_store (t:=33) (v:=.agg #[.slice none 0 0,.int .i64 0,.slice none 0 0,.slice none 0 0,.slice none 0 0,.int .u64 0,.int .i64 0,.int .i64 0,.slice none 0 0,.slice none 0 0,.int .i64 0]) (off:=0) (new:=#[.slice none 0 0,.int .i64 0,.slice none 0 0,.slice none 0 0,.slice none 0 0,.int .u64 0,.int .i64 0,.int .i64 0,.slice none 0 0,.slice none 0 0,.int .i64 0]) rfl rfl rfl rfl aggSys.size HZ5.out rfl (show 0 + 11≤11 by decide) ones_zero rfl ?_;intro Wn hp
      replace HB:=nW (Below.put hba5 hp (Nat.le_of_eq hab5)) HB
      have HQ:=pA hp
      have d8:Wn.cell? ⟨b5,8,none⟩=some (.slice none 0 0):=hcell HQ.out 8
      clear hp hba5 HZ5)
    |go_values|go_skip|go_guarded|(with_reducible refine wg ?_)|go_step|go_upon)
   go_ret
   exact gives_of rfl HB.out
end Hy
end Go.Proofs.YtmagbclkfofpaaaGreatDoor
namespace Go.Proofs.YtmagbclkfofpaaaGreatDoor
open Go.ChangeShapes Go.WideShapes Go.ChangeAt Go.RowKit
theorem law_post {H:Type} {enc:TypeId × Value→H} {P:Program} {f:Func} {s:ChangeSpec} {apart fresh handsOn again:Bool} {W W':World} {args:Array Value} {ds:List (DataW H)} {before:List MemPlace} {tb:TypeId}
 (hW:DataW.Whole enc P f.params.toList s.vars apart W args.toList ds [] before)
 (hv:s.vars=[]) (hres:(s.fn H (ds ++ [])).results=[.lit (.bool true)]) (hargs:(s.fn H (ds ++ [])).args=ds) (hvs:(s.fn H (ds ++ [])).vars=[])
 (hrt:f.resultTypes=#[tb]) (hb:P.underlying tb=some .bool) (hl:laidOutB P=true) (hr:∀ t ∈ f.params.toList,P.readableRec t=true∧t<P.types.size)
 (hbel:Below W.heap.size W W'):s.post enc P f apart fresh handsOn again W args (.bool true) W':=by
 have hW':=hW
 obtain ⟨p,q,hA,hV,rfl,hfz,hnd⟩:=hW
 rw [hv] at hV
 obtain ⟨_,rfl⟩:=trodVars_none hV
 have hlt:∀ x ∈ p,x.block<W.heap.size:=fun x hx=> hW'.lt x (by simpa using hx)
 refine post_of_below (pa:=p) (pv:=[]) hW' ?_ ?_ ?_ rfl hbel ?_
 · intro b sp hd
   rw [hres,hrt]
   exact trodAll_mk1 (shut_bool hb true)
 · intro sp hsp
   rw [hargs]
   exact trodAll_stays hl hbel hr hA hlt sp (fun x hx=> hsp x (by simpa using hx))
 · intro sp _
   rw [hvs,hv]
   rfl
 · exact ok_one hrt rfl (okWide_bool_mk hb true)
end Go.Proofs.YtmagbclkfofpaaaGreatDoor
namespace Go.Proofs.YtmagbclkfofpaaaGreatDoor
open Go.ChangeShapes Go.WideShapes Go.ChangeAt Go.RowKit
namespace Tk
abbrev Handle (W:World):Prop:=W.cell? ⟨0,0,none⟩=some (.iface 144 (.agg #[Err.hE]))
end Tk
theorem own:ownKnob Tryz.prog.godebug=none:=by kernel_rfl
theorem gErr:Tryz.prog.globalNamed "errors.errorType" =some 0:=by kernel_rfl
theorem rtErr:(Tryz.prog.cutTypes.find? (·.1== "internal/reflectlite.rtype")).map (·.2)=some 144:=by kernel_rfl
theorem oneRowErr:((List.range 275).filter fun t=> Tryz.prog.rowNamed t [101,114,114,111,114])=[48]:=by kernel_rfl
theorem sizeErr:Tryz.prog.types.size=275:=by kernel_rfl
theorem handle_of {W:World} (h:laidMetH Tryz.prog [("errors.errorType",Rows.laid_errors_errorType)] W):Tk.Handle W:=by
 have h':laidMet Tryz.prog [] W∧handlesMet Tryz.prog [("errors.errorType",Rows.laid_errors_errorType)] W:=h
 obtain ⟨name,u,ty,e1,e2,e3,e4,e5⟩:=h'.2 _ (List.mem_singleton.2 rfl)
 have en:name=[101,114,114,111,114]:=(Option.some.inj e1).symm
 subst en
 obtain rfl:=Option.some.inj (rtErr.symm.trans e2)
 have hm:ty ∈ (List.range 275).filter fun t=> Tryz.prog.rowNamed t [101,114,114,111,114]:=List.mem_filter.2 ⟨List.mem_range.2 (by rw [← sizeErr];exact e3),e4⟩
 rw [oneRowErr] at hm
 obtain rfl:=List.mem_singleton.1 hm
 have hh:typeHandle Tryz.prog 48=.pointer (some ⟨2,48,none⟩):=by kernel_rfl
 rw [hh] at e5
 unfold Tk.Handle
 simpa using World.var?_cell gErr e5 0
noncomputable def laidWorld (os:Os):World:=
 {World.holding Tryz.prog os ⟨#[],#[],[]⟩ with heap:=(World.holding Tryz.prog os ⟨#[],#[],[]⟩).heap.modify 0 fun
  | .cells _ t frozen=> .cells #[.iface 144 (.agg #[.pointer (some ⟨2,48,none⟩)])] t frozen
  |o=> o}
theorem looks_on:true=Tryz.pinned.checked.prog.looks []:=by kernel_rfl
theorem laid_outB:laidOutB Tryz.prog=true:=by kernel_rfl
end Go.Proofs.YtmagbclkfofpaaaGreatDoor
namespace Go.Proofs.YtmagbclkfofpaaaGreatDoor
theorem reach_string {H:Type} {P:Program} {ts:List TypeId} {ds:List (DataW H)} {j:Nat} {t:TypeId} {s:ByteArray} (h:(DataW.weightsEach P ts ds).all (· ≤reachBytes)=true) (ht:ts[j]? =some t)
 (hd:ds[j]? =some (.lit (.string s.data.toList))):s.size≤140737488355328:=by
 have h1:=sized_string h ht hd
 have e:s.data.toList.length=s.size:=Array.length_toList
 unfold reachBytes at h1
 omega
end Go.Proofs.YtmagbclkfofpaaaGreatDoor
namespace Go.Proofs.YtmagbclkfofpaaaGreatDoor.lawLoadBegins
open Go.ChangeShapes Go.WideShapes Go.ChangeAt Go.RowKit
theorem contract (H:Type) (enc:TypeId × Value→H) (W:World) (base:Nat) (args:Array Value) (ds gs:List (DataW H)) (before:List MemPlace)
 (hval:∀ (j:Nat) t v,Tryz.f3.params[j]? =some t→args[j]? =some v→Value.okWide Tryz.prog W .any base t v)
 (hW:DataW.Whole enc Tryz.prog Tryz.f3.params.toList Rows.loadBeginsSpec.vars false W args.toList ds gs before) (hL:laidMetH Tryz.prog Rows.loadBeginsRow.laid W)
 (hr:(DataW.weightsEach Tryz.prog (Tryz.f3.params.toList ++ (OpenSpec.ofChange Rows.loadBeginsSpec).bare.plain.varTypes Tryz.prog) (ds ++ gs)).all (· ≤reachBytes)=true):
 Calls Tryz.prog 3 args W fun e W'=> ∃ v,e=.returned v∧Rows.loadBeginsSpec.post enc Tryz.prog Tryz.f3 false true false false W args v W':=by
 have hW':=hW
 obtain ⟨p,q,hA0,hV,rfl,hfz,hnd⟩:=hW
 have hA:DataW.TrodAll enc Tryz.prog W 0 (fun _=> true) true Tryz.f3.params.toList args.toList ds p:=hA0
 rw [Tryz.params3] at hA hval
 obtain ⟨v0,v1,d0,d1,p0,p1,rfl,rfl,rfl,h0,h1⟩:=trodAll_two hA
 obtain ⟨rfl,rfl⟩:=trodVars_none hV
 obtain ⟨p,rfl,rfl,rfl,wp⟩:=ChangeMaps.open_string Tryz.underlying9 (hval 0 9 v0 rfl rfl) h0
 obtain ⟨im,rfl,rfl,rfl,wim⟩:=ChangeMaps.open_string Tryz.underlying9 (hval 1 9 v1 rfl rfl) h1
 have zp:p.size≤140737488355328:=reach_string (j:=0) (t:=9) hr (by kernel_rfl) rfl
 have zim:im.size≤140737488355328:=reach_string (j:=1) (t:=9) hr (by kernel_rfl) rfl
 refine (Hy.LLoadBegins p im W zp zim (handle_of hL)).mono fun e W' ⟨he,hb⟩=> ?_
 subst he
 exact ⟨_,rfl,law_post (tb:=4) hW' rfl rfl rfl rfl (by kernel_rfl) Tryz.underlying4 laid_outB (by rw [Tryz.params3];decide +kernel) hb⟩
abbrev zeros:Array Value:=#[.string ByteArray.empty,.string ByteArray.empty]
theorem laid_met (os:Os):laidMetH Tryz.prog Rows.loadBeginsRow.laid ((laidWorld os).forCall (fun _ _=> 0) ⟨#[],zeros,[]⟩).memory:=
 laidMetH_of_parts (laidMet_nil _ _) (by kernel_rfl)
theorem reads (os:Os) {H:Type} (enc:TypeId × Value→H):∃ places,DataW.whole enc Tryz.prog ((laidWorld os).forCall (fun _ _=> 0) ⟨#[],zeros,[]⟩).memory Tryz.f3.params.toList Rows.loadBeginsSpec.vars false zeros.toList 8=some ([.lit (.string []),.lit (.string [])],[],places):=
 ⟨[],by kernel_rfl⟩
theorem lifted (os:Os) (started:os.Started) (H:Type) (enc:TypeId × Value→H) (F:Stop.Interp):
 ReturnsInHanded {} Tryz.checked os 3 .any ((OpenSpec.ofChange Rows.loadBeginsSpec).preRow enc Tryz.prog Tryz.f3 Rows.loadBeginsRow.domain false Rows.loadBeginsRow.laid) (((OpenSpec.ofChange Rows.loadBeginsSpec).at F).post enc Tryz.prog Tryz.f3 false true false false):=by
 obtain ⟨places,hx⟩:=reads os enc
 refine returnsInHanded_of_row (C:=Tryz.checked) (s:=OpenSpec.ofChange Rows.loadBeginsSpec) own started (by kernel_rfl) Tryz.func3
  (witness_row_at (enc:=enc) (C:=Tryz.checked) false (laidWorld os) zeros rfl (by kernel_rfl) (by kernel_rfl) (by kernel_rfl)
    (OpenSpec.preRow_of_cond 8 hx (by kernel_rfl) (fun k hk=> by cases hk) (by kernel_rfl) (laid_met os))) ?_
 intro W base args ds gs before hval hW _ hcond hr hL _ _
 exact contract H enc W base args ds gs before hval hW hL hr
theorem said:Rows.LoadBeginsSaid:=
 OpenClaim.holds_of_cond 3 Tryz.f3 rfl rfl rfl rfl rfl rfl rfl ⟨rfl,rfl,rfl,rfl,rfl⟩ rfl rfl rfl rfl rfl (by kernel_rfl) Tryz.func3 (by kernel_rfl)
  (of_decide_eq_true (by kernel_rfl)) (by unfold Func.isWrapper;first|(rw [if_pos (by decide +kernel)];kernel_rfl)|(rw [if_neg (by decide +kernel)];exact ⟨rfl,rfl⟩))
  (fun os started H enc _ F=> by rw [OpenClaim.pre_eq_preRow];exact lifted os started H enc F)
theorem plain (f:FuncId) (fn:Func) (hf:Tryz.pinned.checked.prog.funcNamed "transom/transomlaw20.LoadBegins" =some f) (hfn:Tryz.pinned.checked.prog.funcs[f]? =some fn):
 true=Tryz.pinned.checked.prog.looks []∧∀ (j:Nat) t,fn.params[j]? =some t→Tryz.pinned.checked.prog.wantsStandIn t=false:=by
 obtain rfl:f=3:=Option.some.inj ((show Tryz.prog.funcNamed "transom/transomlaw20.LoadBegins" =some 3 by kernel_rfl).symm.trans hf)|>.symm
 obtain rfl:fn=Tryz.f3:=(Option.some.inj (Tryz.func3.symm.trans hfn)).symm
 refine ⟨looks_on,fun j t ht=> ?_⟩
 have hm:=Array.mem_of_getElem? ht
 rw [Tryz.params3] at hm
 have hall:∀ t ∈ (#[9,9]:Array TypeId),Tryz.prog.wantsStandIn t=false:=by decide +kernel
 exact hall t hm
theorem card:Rows.LoadBeginsCardSaid:=
 Claim7.holds_tied_plain_at .later [] _ _ _ _ said (fun _ h=> by cases h) (by kernel_rfl) (fun _ h=> by cases h) loadBegins_row_tie rfl ⟨rfl,rfl⟩ (by kernel_rfl) rfl plain (by kernel_rfl)
#print axioms card
end Go.Proofs.YtmagbclkfofpaaaGreatDoor.lawLoadBegins
