/- LoadMachines: the program's machine and the reference's are the same, and so are the codes. Conditions: texts no longer than Go can hold; the handle of 'error' lies there. What a law's row asks behind its walk: a law that answers true and lays only new memory. No condition. The variable errors.errorType as the rows list it, and a world that holds it. No condition. How long a string among the arguments is: by the form's reach, and by the bound of the second form. No condition. The card of LoadMachines: the program's machine out of bytes is the reference's, and so is the code; for every bytes. -/
import Derived.Test.YthgehdghihbiaaaGreatDoorGLmJ
import Derived.Test.YthgehdghihbiaaaGreatDoorGLmE
import Derived.Test.YthgehdghihbiaaaGreatDoorCards
import Derived.Test.YthgehdghihbiaaaGreatDoorTie
import Derived.Deep.DeepHandedRow
import Derived.LaidLaws
import Derived.LaidHandle
import Derived.Test.YthgehdghihbiaaaGreatDoorRows
import Derived.SizedLaws
set_option linter.unusedVariables false
set_option maxRecDepth 100000
set_option maxHeartbeats 8000000
set_option linter.unusedSimpArgs false
namespace Go.Proofs.YthgehdghihbiaaaGreatDoor
open Go.RowKit KR Kn RegT3
namespace Hy
theorem ESysZ (w:World):Calls Tryz.prog 7 #[.agg #[.slice none 0 0,.int .i64 0,.slice none 0 0,.slice none 0 0,.slice none 0 0,.int .u64 0,.int .i64 0,.int .i64 0,.slice none 0 0,.slice none 0 0,.int .i64 0],.agg #[.slice none 0 0,.int .i64 0,.slice none 0 0,.slice none 0 0,.slice none 0 0,.int .u64 0,.int .i64 0,.int .i64 0,.slice none 0 0,.slice none 0 0,.int .i64 0]] w (Gives (.bool true) w):=by
 have hr:∀ sz,RowsAt w sz (.slice none 0 0) []:=fun sz=> ⟨none,0,rfl,by decide,.inl rfl⟩
 have hp:PlanR w (.slice none 0 0) (.slice none 0 0) (.slice none 0 0) ⟨[],0,[],[]⟩:=⟨⟨_,_,_,rfl,hr 4,⟨none,0,rfl,by decide,.inl rfl⟩,hr 5⟩,Sl.nil.rd (E:=101),Sl.nil.rd (E:=96)⟩
 have hi:ImgAt w (.slice none 0 0) []:=⟨none,0,rfl,by decide,by decide,.inl rfl⟩
 have hs:SysAt w ⟨.slice none 0 0,.slice none 0 0,.slice none 0 0,.slice none 0 0,.slice none 0 0,.slice none 0 0,[],[]⟩ ⟨⟨[],0,[],[]⟩,[],[],0,0,0,0⟩:=
  ⟨hp,rfl,⟨Sl.nil,fun x hx=> nomatch hx⟩,rfl,⟨Sl.nil,fun x hx=> nomatch hx⟩,rfl⟩
 have e:=ESys2 _ _ _ [] w hs hs hi hi
 exact e
theorem LLoadMachines (p im:ByteArray) (w:World) (hp:p.size≤140737488355328) (him:im.size≤140737488355328) (hh:Unp.Handle w):Calls Tryz.prog 3 #[.string p,.string im] w (Gives (.bool true) w):=by
 have HH:=hU (fun W (hb:Below w.heap.size w W)=> hh.below hb)
 clear hh
 go_enter Tryz.func3,Tryz.ntmps3
 repeat' (first|go_values|go_skip|go_guarded|(with_reducible refine wg ?_)|go_step|go_upon)
 refine (Load.shown _).mono ?_
 rintro er Wn ⟨rfl,hb⟩
 have HB:=hU hb
 clear hb
 dsimp only
 repeat' (first|go_values|go_skip|go_guarded|(with_reducible refine wg ?_)|go_step|go_upon)
 refine (Machine2 p im _ hp him (HH.out _ HB.out)).mono ?_
 rintro er Wn ⟨c1,ck,r,rfl,hcs,hon,hb,hm,hz,hgo⟩
 replace HB:=nW hb HB
 have HCS:=hU hcs
 have HON:=hU hon
 have HM1:=hU hm
 have HZ1:=hU hz
 have HG1:=hU (fun P l (h:r=some (P,l)) W (hbb:Below Wn.heap.size Wn W)=> show ∃ y:YL,c1=ycells y (mbegin P l)∧SysAt W y (mbegin P l)∧ImgAt W y.im l from by
  obtain ⟨_,y,h1,h2,h3⟩:=hgo P l h
  exact ⟨y,h1,h2.below hbb,h3.below hbb⟩)
 obtain ⟨Wo,hWo⟩:∃ Wo,Wo=Wn:=⟨_,rfl⟩
 have HO:Hid (Below Wo.heap.size Wo Wn):=hU (by rw [hWo];exact Below.refl _ _)
 rw [← hWo] at HG1
 clear hb hcs hon hm hz hgo hWo
 obtain ⟨b5,hab5,hbz5⟩:=nbz HB
 obtain ⟨W5,hW5,hba5,HZ5⟩:=nb1 (W:=Wn) (.cells #[.slice none 0 0,.int .i64 0,.slice none 0 0,.slice none 0 0,.slice none 0 0,.int .u64 0,.int .i64 0,.int .i64 0,.slice none 0 0,.slice none 0 0,.int .i64 0] 33) hab5
 dsimp only
 repeat' (first
  |(rw [hW5,hab5];clear hW5)
  |(refine wpList_store (t:=33) (v:=.agg c1) (off:=0) (new:=c1) rfl rfl rfl rfl aggSys.size HZ5.out HCS.out (show 0 + 11≤11 by decide) HON.out (splice_whole (by rw [show (Value.agg c1).cells.size=11 from HCS.out];rfl)) ?_;intro Wn hp
    have hbb:=Below.put hba5 hp (Nat.le_of_eq hab5)
    replace HB:=nW hbb HB
    replace HO:=hU (HO.out.trans (hbb.mono HO.out.size))
    have HQ:=pA hp
    clear hbb hp hba5 HZ5 HON)
  |go_values|go_skip|go_guarded|(with_reducible refine wg ?_)|go_step|go_upon)
 refine (Rf.RMachine p im _ hp him).mono ?_
 rintro er Wn ⟨c2,ck2,r2,rfl,hcs,hon,hb,hm,hz,hgo⟩
 replace HQ:=nB hb HQ
 replace HO:=hU (HO.out.trans (hb.mono HO.out.size))
 replace HB:=nW hb HB
 have HCS2:=hU hcs
 have HON2:=hU hon
 have HM2:=hU hm
 have HZ2:=hU hz
 have HG2:=hU (fun P l (h:r2=some (P,l)) W (hbb:Below Wn.heap.size Wn W)=> show ∃ y:YL,c2=ycells y (mbegin P l)∧SysAt W y (mbegin P l)∧ImgAt W y.im l from by
  obtain ⟨_,y,h1,h2,h3⟩:=hgo P l h
  exact ⟨y,h1,h2.below hbb,h3.below hbb⟩)
 obtain ⟨Wp,hWp⟩:∃ Wp,Wp=Wn:=⟨_,rfl⟩
 have HP:Hid (Below Wp.heap.size Wp Wn):=hU (by rw [hWp];exact Below.refl _ _)
 rw [← hWp] at HG2
 clear hb hcs hon hm hz hgo hWp
 obtain ⟨b6,hab6,hbz6⟩:=nbz HB
 have hb6:=nlt HQ hab6
 obtain ⟨W6,hW6,hba6,HZ6⟩:=nb1 (W:=Wn) (.cells #[.slice none 0 0,.int .i64 0,.slice none 0 0,.slice none 0 0,.slice none 0 0,.int .u64 0,.int .i64 0,.int .i64 0,.slice none 0 0,.slice none 0 0,.int .i64 0] 33) hab6
 dsimp only
 repeat' (first
  |(rw [hW6,hab6];clear hW6)
  |(refine wpList_store (t:=33) (v:=.agg c2) (off:=0) (new:=c2) rfl rfl rfl rfl aggSys.size HZ6.out HCS2.out (show 0 + 11≤11 by decide) HON2.out (splice_whole (by rw [show (Value.agg c2).cells.size=11 from HCS2.out];rfl)) ?_;intro Wn hp
    have hbb:=Below.put hba6 hp (Nat.le_of_eq hab6)
    replace HB:=nW hbb HB
    replace HO:=hU (HO.out.trans (hbb.mono HO.out.size))
    replace HP:=hU (HP.out.trans (hbb.mono HP.out.size))
    replace HQ:=nB hbb HQ
    have HQ2:=pA hp
    clear hbb hp hba6 HZ6 HON2)
  |(refine wpList_load (t:=33) (v:=.agg c1) rfl rfl rfl (run_load_whole aggSys HQ.out HCS.out) ?_)
  |(refine wpList_load (t:=33) (v:=.agg c2) rfl rfl rfl (run_load_whole aggSys HQ2.out HCS2.out) ?_)
  |go_values|go_skip|go_guarded|(with_reducible refine wg ?_)|go_step|go_upon)
 obtain ⟨hck,hr⟩:=MRes.same HM1.out HM2.out
 subst hck hr
 have hsame:Calls Tryz.prog 7 #[.agg c1,.agg c2] Wn (Gives (.bool true) Wn):=by
  cases r with
  |none=>
   rw [HZ1.out rfl,HZ2.out rfl]
   exact ESysZ Wn
  |some pl=>
   obtain ⟨P,l⟩:=pl
   obtain ⟨y1,h1,hs1,hi1⟩:=HG1.out P l rfl Wn HO.out
   obtain ⟨y2,h2,hs2,hi2⟩:=HG2.out P l rfl Wn HP.out
   rw [h1,h2]
   exact ESys2 y1 y2 _ l _ hs1 hs2 hi1 hi2
 refine hsame.mono ?_
 rintro er Wn ⟨rfl,hb⟩
 replace HB:=nW hb HB
 have e1:(ck==ck)=true:=beq_self_eq_true _
 clear hb hsame HM1 HM2 HZ1 HZ2 HG1 HG2 HO HP HQ HQ2
 dsimp only
 repeat' (first|go_skip|go_values|go_skip|go_guarded|(with_reducible refine wg ?_)|go_step|go_upon)
 go_ret
 exact gives_of rfl HB.out
end Hy
end Go.Proofs.YthgehdghihbiaaaGreatDoor
namespace Go.Proofs.YthgehdghihbiaaaGreatDoor
open Go.ChangeShapes Go.WideShapes Go.ChangeAt Go.RowKit
theorem law_post {H:Type} {enc:TypeId × Value→H} {P:Program} {f:Func} {s:ChangeSpec} {apart fresh handsOn again:Bool} {W W':World} {args:Array Value} {ds:List (DataW H)} {before:List MemPlace} {tb:TypeId}
 (hW:DataW.Whole enc P f.params.toList s.vars apart W args.toList ds [] before)
 (hv:s.vars=[]) (hres:(s.fn H (ds ++ [])).results=[.lit (.bool true)]) (hargs:(s.fn H (ds ++ [])).args=ds) (hvs:(s.fn H (ds ++ [])).vars=[])
 (hrt:f.resultTypes=#[tb]) (hb:P.underlying tb=some .bool) (hl:laidOutB P=true) (hr:∀ t ∈ f.params.toList,P.readableRec t=true∧t<P.types.size)
 (hbel:Below W.heap.size W W'):s.post enc P f apart fresh handsOn again W args (.bool true) W':=by
 have hW':=hW
 obtain ⟨p,q,hA,hV,rfl,hfz,hnd⟩:=hW
 rw [hv] at hV
 obtain ⟨_,rfl⟩:=trodVars_none hV
 have hlt:∀ x ∈ p,x.block<W.heap.size:=fun x hx=> hW'.lt x (by simpa using hx)
 refine post_of_below (pa:=p) (pv:=[]) hW' ?_ ?_ ?_ rfl hbel ?_
 · intro b sp hd
   rw [hres,hrt]
   exact trodAll_mk1 (shut_bool hb true)
 · intro sp hsp
   rw [hargs]
   exact trodAll_stays hl hbel hr hA hlt sp (fun x hx=> hsp x (by simpa using hx))
 · intro sp _
   rw [hvs,hv]
   rfl
 · exact ok_one hrt rfl (okWide_bool_mk hb true)
end Go.Proofs.YthgehdghihbiaaaGreatDoor
namespace Go.Proofs.YthgehdghihbiaaaGreatDoor
open Go.ChangeShapes Go.WideShapes Go.ChangeAt Go.RowKit
namespace Tk
abbrev Handle (W:World):Prop:=W.cell? ⟨0,0,none⟩=some (.iface 188 (.agg #[Err.hE]))
end Tk
theorem own:ownKnob Tryz.prog.godebug=none:=by kernel_rfl
theorem gErr:Tryz.prog.globalNamed "errors.errorType" =some 0:=by kernel_rfl
theorem rtErr:(Tryz.prog.cutTypes.find? (·.1== "internal/reflectlite.rtype")).map (·.2)=some 188:=by kernel_rfl
theorem oneRowErr:((List.range 316).filter fun t=> Tryz.prog.rowNamed t [101,114,114,111,114])=[80]:=by kernel_rfl
theorem sizeErr:Tryz.prog.types.size=316:=by kernel_rfl
theorem handle_of {W:World} (h:laidMetH Tryz.prog [("errors.errorType",Rows.laid_errors_errorType)] W):Tk.Handle W:=by
 have h':laidMet Tryz.prog [] W∧handlesMet Tryz.prog [("errors.errorType",Rows.laid_errors_errorType)] W:=h
 obtain ⟨name,u,ty,e1,e2,e3,e4,e5⟩:=h'.2 _ (List.mem_singleton.2 rfl)
 have en:name=[101,114,114,111,114]:=(Option.some.inj e1).symm
 subst en
 obtain rfl:=Option.some.inj (rtErr.symm.trans e2)
 have hm:ty ∈ (List.range 316).filter fun t=> Tryz.prog.rowNamed t [101,114,114,111,114]:=List.mem_filter.2 ⟨List.mem_range.2 (by rw [← sizeErr];exact e3),e4⟩
 rw [oneRowErr] at hm
 obtain rfl:=List.mem_singleton.1 hm
 have hh:typeHandle Tryz.prog 80=.pointer (some ⟨2,80,none⟩):=by kernel_rfl
 rw [hh] at e5
 unfold Tk.Handle
 simpa using World.var?_cell gErr e5 0
noncomputable def laidWorld (os:Os):World:=
 {World.holding Tryz.prog os ⟨#[],#[],[]⟩ with heap:=(World.holding Tryz.prog os ⟨#[],#[],[]⟩).heap.modify 0 fun
  | .cells _ t frozen=> .cells #[.iface 188 (.agg #[.pointer (some ⟨2,80,none⟩)])] t frozen
  |o=> o}
theorem looks_on:true=Tryz.pinned.checked.prog.looks []:=by kernel_rfl
theorem laid_outB:laidOutB Tryz.prog=true:=by kernel_rfl
end Go.Proofs.YthgehdghihbiaaaGreatDoor
namespace Go.Proofs.YthgehdghihbiaaaGreatDoor
theorem reach_string {H:Type} {P:Program} {ts:List TypeId} {ds:List (DataW H)} {j:Nat} {t:TypeId} {s:ByteArray} (h:(DataW.weightsEach P ts ds).all (· ≤reachBytes)=true) (ht:ts[j]? =some t)
 (hd:ds[j]? =some (.lit (.string s.data.toList))):s.size≤140737488355328:=by
 have h1:=sized_string h ht hd
 have e:s.data.toList.length=s.size:=Array.length_toList
 unfold reachBytes at h1
 omega
end Go.Proofs.YthgehdghihbiaaaGreatDoor
namespace Go.Proofs.YthgehdghihbiaaaGreatDoor.lawLoadMachines
open Go.ChangeShapes Go.WideShapes Go.ChangeAt Go.RowKit
theorem contract (H:Type) (enc:TypeId × Value→H) (W:World) (base:Nat) (args:Array Value) (ds gs:List (DataW H)) (before:List MemPlace)
 (hval:∀ (j:Nat) t v,Tryz.f3.params[j]? =some t→args[j]? =some v→Value.okWide Tryz.prog W .any base t v)
 (hW:DataW.Whole enc Tryz.prog Tryz.f3.params.toList Rows.loadMachinesSpec.vars false W args.toList ds gs before) (hL:laidMetH Tryz.prog Rows.loadMachinesRow.laid W)
 (hr:(DataW.weightsEach Tryz.prog (Tryz.f3.params.toList ++ (OpenSpec.ofChange Rows.loadMachinesSpec).bare.plain.varTypes Tryz.prog) (ds ++ gs)).all (· ≤reachBytes)=true):
 Calls Tryz.prog 3 args W fun e W'=> ∃ v,e=.returned v∧Rows.loadMachinesSpec.post enc Tryz.prog Tryz.f3 false true false false W args v W':=by
 have hW':=hW
 obtain ⟨p,q,hA0,hV,rfl,hfz,hnd⟩:=hW
 have hA:DataW.TrodAll enc Tryz.prog W 0 (fun _=> true) true Tryz.f3.params.toList args.toList ds p:=hA0
 rw [Tryz.params3] at hA hval
 obtain ⟨v0,v1,d0,d1,p0,p1,rfl,rfl,rfl,h0,h1⟩:=trodAll_two hA
 obtain ⟨rfl,rfl⟩:=trodVars_none hV
 obtain ⟨p,rfl,rfl,rfl,wp⟩:=ChangeMaps.open_string Tryz.underlying9 (hval 0 9 v0 rfl rfl) h0
 obtain ⟨im,rfl,rfl,rfl,wim⟩:=ChangeMaps.open_string Tryz.underlying9 (hval 1 9 v1 rfl rfl) h1
 have zp:p.size≤140737488355328:=reach_string (j:=0) (t:=9) hr (by kernel_rfl) rfl
 have zim:im.size≤140737488355328:=reach_string (j:=1) (t:=9) hr (by kernel_rfl) rfl
 refine (Hy.LLoadMachines p im W zp zim (handle_of hL)).mono fun e W' ⟨he,hb⟩=> ?_
 subst he
 exact ⟨_,rfl,law_post (tb:=4) hW' rfl rfl rfl rfl (by kernel_rfl) Tryz.underlying4 laid_outB (by rw [Tryz.params3];decide +kernel) hb⟩
abbrev zeros:Array Value:=#[.string ByteArray.empty,.string ByteArray.empty]
theorem laid_met (os:Os):laidMetH Tryz.prog Rows.loadMachinesRow.laid ((laidWorld os).forCall (fun _ _=> 0) ⟨#[],zeros,[]⟩).memory:=
 laidMetH_of_parts (laidMet_nil _ _) (by kernel_rfl)
theorem reads (os:Os) {H:Type} (enc:TypeId × Value→H):∃ places,DataW.whole enc Tryz.prog ((laidWorld os).forCall (fun _ _=> 0) ⟨#[],zeros,[]⟩).memory Tryz.f3.params.toList Rows.loadMachinesSpec.vars false zeros.toList 8=some ([.lit (.string []),.lit (.string [])],[],places):=
 ⟨[],by kernel_rfl⟩
theorem lifted (os:Os) (started:os.Started) (H:Type) (enc:TypeId × Value→H) (F:Stop.Interp):
 ReturnsInHanded {} Tryz.checked os 3 .any ((OpenSpec.ofChange Rows.loadMachinesSpec).preRow enc Tryz.prog Tryz.f3 Rows.loadMachinesRow.domain false Rows.loadMachinesRow.laid) (((OpenSpec.ofChange Rows.loadMachinesSpec).at F).post enc Tryz.prog Tryz.f3 false true false false):=by
 obtain ⟨places,hx⟩:=reads os enc
 refine returnsInHanded_of_row (C:=Tryz.checked) (s:=OpenSpec.ofChange Rows.loadMachinesSpec) own started (by kernel_rfl) Tryz.func3
  (witness_row_at (enc:=enc) (C:=Tryz.checked) false (laidWorld os) zeros rfl (by kernel_rfl) (by kernel_rfl) (by kernel_rfl)
    (OpenSpec.preRow_of_cond 8 hx (by kernel_rfl) (fun k hk=> by cases hk) (by kernel_rfl) (laid_met os))) ?_
 intro W base args ds gs before hval hW _ hcond hr hL _ _
 exact contract H enc W base args ds gs before hval hW hL hr
theorem said:Rows.LoadMachinesSaid:=
 OpenClaim.holds_of_cond 3 Tryz.f3 rfl rfl rfl rfl rfl rfl rfl ⟨rfl,rfl,rfl,rfl,rfl⟩ rfl rfl rfl rfl rfl (by kernel_rfl) Tryz.func3 (by kernel_rfl)
  (of_decide_eq_true (by kernel_rfl)) (by unfold Func.isWrapper;first|(rw [if_pos (by decide +kernel)];kernel_rfl)|(rw [if_neg (by decide +kernel)];exact ⟨rfl,rfl⟩))
  (fun os started H enc _ F=> by rw [OpenClaim.pre_eq_preRow];exact lifted os started H enc F)
theorem plain (f:FuncId) (fn:Func) (hf:Tryz.pinned.checked.prog.funcNamed "transom/transomlaw20.LoadMachines" =some f) (hfn:Tryz.pinned.checked.prog.funcs[f]? =some fn):
 true=Tryz.pinned.checked.prog.looks []∧∀ (j:Nat) t,fn.params[j]? =some t→Tryz.pinned.checked.prog.wantsStandIn t=false:=by
 obtain rfl:f=3:=Option.some.inj ((show Tryz.prog.funcNamed "transom/transomlaw20.LoadMachines" =some 3 by kernel_rfl).symm.trans hf)|>.symm
 obtain rfl:fn=Tryz.f3:=(Option.some.inj (Tryz.func3.symm.trans hfn)).symm
 refine ⟨looks_on,fun j t ht=> ?_⟩
 have hm:=Array.mem_of_getElem? ht
 rw [Tryz.params3] at hm
 have hall:∀ t ∈ (#[9,9]:Array TypeId),Tryz.prog.wantsStandIn t=false:=by decide +kernel
 exact hall t hm
theorem card:Rows.LoadMachinesCardSaid:=
 Claim7.holds_tied_plain_at .later [] _ _ _ _ said (fun _ h=> by cases h) (by kernel_rfl) (fun _ h=> by cases h) loadMachines_row_tie rfl ⟨rfl,rfl⟩ (by kernel_rfl) rfl plain (by kernel_rfl)
#print axioms card
end Go.Proofs.YthgehdghihbiaaaGreatDoor.lawLoadMachines
