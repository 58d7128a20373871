/- The schedule changes at the end of a frame alone, to one that there is. Conditions: as told. -/
import Derived.Test.YtbeakngieodlhaaGreatDoorHyShown
set_option linter.unusedVariables false
set_option maxRecDepth 100000
set_option maxHeartbeats 8000000
set_option linter.unusedSimpArgs false
namespace Go.Proofs.YtbeakngieodlhaaGreatDoor
open Go.RowKit KR Kn RegT3
namespace Hy
theorem mstep_modes (m:Mach) (h0:0≤(mstep m).next):((mstep m).sched:Int)=m.sched∨(mstep m).now % m.p.fr=0∧((mstep m).sched:Int)=(mstep m).next:=by
 obtain ⟨e1,e2,e3⟩:=mown_frame m
 unfold mstep mtick at h0 ⊢
 split
 · next h=>
   right
   rw [if_pos h] at h0
   have h0:0≤(mown m).next:=h0
   rw [e1] at h
   exact ⟨h,by show ((mown m).next.toNat:Int)=(mown m).next;omega⟩
 · left
   show ((mown m).sched:Int)=_
   rw [e2]
theorem LHyperModes (vp vw vc im:Value) (P:Pl.Plan) (l:List (List ByteArray)) (n:Int) (w:World) (h:PlanR w vp vw vc P) (hfr:P.fr≤9223372036854775807) (him:ImgAt w im l) (hl:∀ r ∈ l,r.length≤8796093022207) (hT:Tab w):
 Calls Tryz.prog 8 #[.agg (pcells vp vw vc P.fr),im,.int .i64 n] w (Gives (.bool true) w):=by
 obtain ⟨aw,cw,rfl⟩:=h.wins
 obtain ⟨ai,ci,rfl,_⟩:=id him
 obtain ⟨Wn,hW0,hb0,HP⟩:=nb1 (W:=w) (.cells (pcells vp (.slice aw P.ws.length cw) vc P.fr) 53) rfl
 have HB:=hU hb0
 have HT:=hU (fun W (h:Below w.heap.size w W)=> hT.below h)
 have HPL:=hU (fun W (hb:Below w.heap.size w W)=> h.below hb)
 have HIM:=hU (fun W (hb:Below w.heap.size w W)=> him.below hb)
 have HBE:=hU (fun W (hb:Below w.heap.size w W)=> HBegin vp (.slice aw P.ws.length cw) vc (.slice ai l.length ci) P l W (h.below hb) hfr (him.below hb) hl)
 clear hb0 h him hl hT
 go_in
 repeat' (first|(rw [hW0];clear hW0)|go_values|go_skip|go_guarded|refine wg ?_|go_step|go_upon)
 refine (HShown _ (HT.out _ HB.out)).mono ?_
 rintro er Wn ⟨rfl,hb⟩
 replace HP:=nB hb HP
 replace HB:=nW hb HB
 clear hb
 dsimp only
 refine sg ?_;intros
 refine (HFew (.slice ai l.length ci) l _ (HIM.out _ HB.out)).mono ?_
 rintro er Wx ⟨rfl,rfl⟩
 obtain ⟨sm,hsm⟩:∃ sm,fewI l=sm:=⟨_,rfl⟩
 rw [hsm]
 dsimp only
 repeat' (first|(refine wpList_load (t:=53) (v:=.agg (pcells vp (.slice aw P.ws.length cw) vc P.fr)) rfl rfl rfl (run_load_whole aggPlan HP.out rfl) ?_)|go_values|go_skip|go_guarded|refine wg ?_|go_step|go_upon)
 refine (HBE.out _ HB.out).mono ?_
 rintro er Wn hg
 obtain ⟨c,ck,rfl,hcs,hon,hb,hgo⟩:=hg.cells
 clear hg HBE HIM
 replace HP:=nB hb HP
 replace HB:=nW hb HB
 have HCS:=hU hcs
 have HON:=hU hon
 have HGO:=hU hgo
 have hb9:Below Wn.heap.size Wn Wn:=Below.refl _ _
 have HR:=hU hb9
 clear hb hcs hon hgo hb9
 obtain ⟨b5,hab5,hbz5⟩:=nbz HB
 have hb5:=nlt HP hab5
 obtain ⟨Wo,hWo⟩:∃ Wo,Wo=Wn:=⟨_,rfl⟩
 rw [← hWo] at HGO
 replace HR:Hid (Below Wo.heap.size Wo Wn):=hU (by rw [hWo];exact Below.refl _ _)
 clear hWo
 obtain ⟨W5,hW5,hba5,HZ5⟩:=nb1 (W:=Wn) (.cells zSy 61) hab5
 dsimp only
 have hcase:sm=false∨sm=true∧ck ≠ 0∨sm=true∧ck=0∧n<0∨sm=true∧ck=0∧¬ n<0:=by
  cases sm
  · exact .inl rfl
  · by_cases h1:ck=0
    · by_cases h2:n<0
      · exact .inr (.inr (.inl ⟨rfl,h1,h2⟩))
      · exact .inr (.inr (.inr ⟨rfl,h1,h2⟩))
    · exact .inr (.inl ⟨rfl,h1⟩)
 rcases hcase with rfl|⟨rfl,hck⟩|⟨rfl,rfl,hn⟩|⟨rfl,rfl,hn⟩
 case' inr.inl=> have e1:(ck !=0)=true:=by simpa using hck
 case' inr.inr.inl=> have e2:decide (n<0)=true:=by simpa using hn
 case' inr.inr.inr=> have e2:decide (n<0)=false:=by simpa using hn
 all_goals repeat' (first
  |(rw [hW5,hab5];clear hW5)
  |(refine wpList_store (t:=61) (v:=.agg c) (off:=0) (new:=c) rfl rfl rfl rfl aggSys.size HZ5.out HCS.out (show 0 + 11≤11 by decide) HON.out (splice_whole (by rw [show (Value.agg c).cells.size=11 from HCS.out];rfl)) ?_;intro Wn hp
    have hbb:=Below.put hba5 hp (Nat.le_of_eq hab5)
    replace HP:=nB hbb HP
    replace HR:=hU (HR.out.trans (hbb.mono HR.out.size))
    replace HB:=nW hbb HB
    have HQ:=pA hp
    clear hbb hp hba5 HZ5 HON HCS)
  |go_values|go_skip|go_guarded|refine wg ?_|go_step|go_upon)
 rotate_left 1
 · go_ret;exact gives_of rfl HB.out
 · go_ret;exact gives_of rfl HB.out
 · go_ret;exact gives_of rfl HB.out
 clear e2
 obtain ⟨hck,y,rfl,hs,hv⟩:=HGO.out rfl
 obtain ⟨hgd,hwd⟩:=mbegin_good hck (fewI_mem hsm)
 obtain ⟨m0,hm0⟩:∃ m0,m0=mbegin P l:=⟨_,rfl⟩
 have hp0:m0.p=P:=by rw [hm0];rfl
 rw [← hm0] at HQ hs hgd hwd
 have HY:=hU (hs.below HR.out)
 have HV:=hU hv
 obtain ⟨k,hk⟩:∃ k,k=(most 300 n).toNat:=⟨_,rfl⟩
 have hk3:k≤300:=by rw [hk];unfold most;split <;> omega
 have HRU:=hU (fun W hy ht=> HRun y m0 0 k (most 300 n) W hy hgd hwd hk (by omega) ht)
 have HG:=hU (hgd.run hwd (k:=k) (by omega))
 have HM:=hU (show (mrun k m0).p=P by rw [mrun_p];exact hp0)
 have HM0:=hU hm0
 clear hck hs hv hgd hwd HGO hm0 hp0 HR hsm hk
 refine wp_region_noPanic ?_
 refine go0 (S:=fun W=> W.heap[b5]? =some (.cells (ycells y m0) 61 (0,0))) [4] HQ.out fun hS=> ?_
 obtain ⟨Wd,hWd⟩:=exW Wn.drew
 have hbd:=dW hWd
 replace HP:=nB hbd HP
 replace HQ:=nB hbd HQ
 replace HY:=hU (HY.out.below hbd)
 replace HB:=nW hbd HB
 rw [hWd] at hS ⊢
 clear hWd hbd
 refine tv 0 (.agg (ycells y m0)) (fun W hSW=> run_val_load rfl rfl (run_load_whole aggSys hSW rfl)) ?_;(try simp only [acts])
 refine tp 1 ?_;(try simp only [acts])
 refine ro 2 fun K hK=> ?_
 refine want rfl ?_
 go_simp
 refine (HMost n _).mono ?_
 rintro er Wx ⟨rfl,rfl⟩
 dsimp only
 refine nx hK hS fun hS=> ?_
 clear hK K hS
 (try simp only [acts])
 refine ro 3 fun K hK=> ?_
 refine want rfl ?_
 go_simp
 refine (HRU.out _ HY.out (HT.out _ HB.out)).mono ?_
 rintro er Wn ⟨y1,rfl,hs,hv,hb⟩
 obtain ⟨m1,hm1⟩:∃ m1,mrun k m0=m1:=⟨_,rfl⟩
 rw [hm1] at HG HM hs ⊢
 replace HP:=nB hb HP
 replace HQ:=nB hb HQ
 replace HB:=nW hb HB
 replace HY:=hU hs
 have HON:=hU (onesY hs)
 have HV1:Hid (y1.vp=vp∧y1.vw=.slice aw P.ws.length cw∧y1.vc=vc):=hU ⟨hv.1.trans HV.out.1,hv.2.1.trans HV.out.2.1,hv.2.2.1.trans HV.out.2.2.1⟩
 have HPM:Hid (∀ W,Below w.heap.size w W→PlanR W y1.vp y1.vw y1.vc m1.p):=hU (by rw [HV1.out.1,HV1.out.2.1,HV1.out.2.2,HM.out];exact HPL.out)
 have HM1:=hU hm1
 clear hb hs hv HRU hm1 HV
 dsimp only
 refine nx hK HQ.out fun hS=> ?_
 clear hK K hS
 (try simp only [acts])
 refine ro 4 fun K hK=> ?_
 refine want rfl ?_
 refine wp_store (v:=.agg (ycells y1 m1)) (off:=0) (new:=ycells y1 m1) rfl rfl rfl aggSys.size HQ.out rfl (show 0 + 11≤11 by decide) HON.out rfl ?_
 intro Wn hp
 have hB:=Below.put HB.out hp (by omega)
 replace HY:=hU (HY.out.put HQ.out hp (HPM.out _ hB) noSys (by decide) (by decide) (by decide))
 replace HP:=pO hp HP
 replace HQ:=pA hp
 replace HB:=hU hB
 clear hB hp HON
 refine nt hK ?_
 clear hK K
 (try simp only [acts])
 refine doneL (by kernel_rfl) (NoPanic.normal ?_) _
 obtain ⟨hg1,hw1⟩:=HG.out
 have HST:=hU (fun W hy ht=> HStep y1 m1 (0 + 15 * k) W hy hg1 hw1 (by omega) ht)
 have HG2:=hU (hg1.step hw1 (by omega))
 clear hg1 hw1
 repeat' (first|(refine wpList_load (t:=61) (v:=.agg (ycells y1 m1)) rfl rfl rfl (run_load_whole aggSys HQ.out rfl) ?_)|go_values|go_skip|go_guarded|refine wg ?_|go_step|go_upon)
 refine (HST.out _ HY.out (HT.out _ HB.out)).mono ?_
 rintro er Wn ⟨y2,rfl,hs,hv,hb⟩
 obtain ⟨m2,hm2⟩:∃ m2,mstep m1=m2:=⟨_,rfl⟩
 have HM2:=hU hm2
 rw [hm2] at hs HG2 ⊢
 replace HP:=nB hb HP
 replace HQ:=nB hb HQ
 replace HB:=nW hb HB
 replace HY:=hU (HY.out.below hb)
 have HY2:=hU hs
 have HON:=hU (onesY hs)
 clear hb hs hv HST hm2
 dsimp only
 obtain ⟨b6,hab6,hbz6⟩:=nbz HB
 have hb56:=nlt HQ hab6
 obtain ⟨W6,hW6,hba6,HZ6⟩:=nb1 (W:=Wn) (.cells zSy 61) hab6
 have hmo:=mstep_modes m1 (by rw [HM2.out];exact HG2.out.1.nx0)
 rw [HM2.out,HM.out] at hmo
 have hz0:(0:Int)≤m2.sched:=by omega
 have hz1:(m2.sched:Int)<P.ws.length:=by have:=HG2.out.1.sc;rw [← HM2.out,mstep_p,HM.out,HM2.out] at this;omega
 have hx0:=HG2.out.1.nx0
 have hx1:m2.next<P.ws.length:=by have:=HG2.out.1.nx1;rw [← HM2.out,mstep_p,HM.out,HM2.out] at this;exact this
 have hn0:=HG2.out.1.nw0
 have hn1:=HG2.out.1.nw1
 obtain ⟨hf0,hf1⟩:1≤P.fr∧P.fr≤4096:=by have:=Pl.check_zero HG.out.1.ck;rw [HM.out] at this;exact ⟨this.2.2.2.2.2.1,this.2.2.2.2.2.2.1⟩
 have hfw:IntKind.u64.wrap P.fr=P.fr:=by rw [IntKind.wrap_u64];omega
 have hf2:(P.fr==0)=false:=by simp;omega
 have hf3:¬ P.fr=0:=by omega
 have hf4:(0:Int)≤P.fr:=by omega
 obtain ⟨s1,hs1⟩:∃ s1:Int,(m1.sched:Int)=s1:=⟨_,rfl⟩
 obtain ⟨s2,hs2⟩:∃ s2:Int,(m2.sched:Int)=s2:=⟨_,rfl⟩
 rw [hs1,hs2] at hmo
 rw [hs2] at hz0 hz1
 have g1:decide (s2<0)=false:=by simp;omega
 have g2:decide ((P.ws.length:Int)≤s2)=false:=by simp;omega
 have g3:decide (m2.next<0)=false:=by simp;omega
 have g4:decide ((P.ws.length:Int)≤m2.next)=false:=by simp;omega
 have hr1:¬ s2=s1→(m2.now % P.fr==0)=true∧(s2==m2.next)=true:=fun hq=> by
  rcases hmo with e|⟨e1,e2⟩
  · exact absurd e hq
  · exact ⟨by simpa using e1,by simpa using e2⟩
 have HR1:=hU hr1
 clear hmo HG HG2 HM HM2 hr1
 by_cases hq:s2=s1
 case' pos=>
  subst hq
  have q1:=beq_self_eq_true (m1.sched:Int)
  rw [hs1] at q1
 case' neg=> have q1:(s2==s1)=false:=by simpa using hq
 case' neg=> obtain ⟨r1,r2⟩:=HR1.out hq
 case' neg=> clear hq
 all_goals clear HR1
 all_goals repeat' (first
  |go_skip
  |(rw [hW6,hab6];clear hW6)
  |(refine sN 61 (.agg (ycells y2 m2)) 0 (ycells y2 m2) aggSys.size HZ6.out HON.out fun Wn hp=> ?_
    have hbb:=Below.put hba6 hp (Nat.le_of_eq hab6)
    replace HP:=nB hbb HP
    replace HQ:=nB hbb HQ
    replace HY:=hU (HY.out.below hbb)
    replace HY2:=hU (HY2.out.below hbb)
    replace HB:=nW hbb HB
    have HK:=pA hp
    clear hbb hp hba6 HZ6 HON
    have c5:Wn.cell? ⟨b6,5,none⟩=some (.int .u64 m2.now):=hcell HK.out 5
    have c6:Wn.cell? ⟨b6,6,none⟩=some (.int .i64 m2.sched):=hcell HK.out 6
    rw [hs2] at c6
    have c7:Wn.cell? ⟨b6,7,none⟩=some (.int .i64 m2.next):=hcell HK.out 7
    have d6:Wn.cell? ⟨b5,6,none⟩=some (.int .i64 m1.sched):=hcell HQ.out 6
    rw [hs1] at d6
    have p1:Wn.cell? ⟨w.heap.size,1,none⟩=some (.int .i64 P.fr):=hcell HP.out 1
    have p2:Wn.cell? ⟨w.heap.size,2,none⟩=some (.slice aw P.ws.length cw):=hcell HP.out 2
    clear hs1 hs2)
  |go_values|go_skip|go_guarded|refine wg ?_|go_step|go_upon)
 all_goals go_ret
 all_goals exact gives_of rfl HB.out
end Hy
end Go.Proofs.YtbeakngieodlhaaGreatDoor
namespace Go.Proofs.YtbeakngieodlhaaGreatDoor.lawHyperModes
open Go.ChangeShapes Go.WideShapes Go.ChangeAt Go.RowKit
theorem contract (H:Type) (enc:TypeId × Value→H) (W:World) (base:Nat) (args:Array Value) (ds gs:List (DataW H)) (before:List MemPlace)
 (hval:∀ (j:Nat) t v,Tryz.f8.params[j]? =some t→args[j]? =some v→Value.okWide Tryz.prog W .any base t v)
 (hW:DataW.Whole enc Tryz.prog Tryz.f8.params.toList Rows.hyperModesSpec.vars false W args.toList ds gs before) (hL:laidMetH Tryz.prog Rows.hyperModesRow.laid W)
 (hr:(DataW.weightsEach Tryz.prog (Tryz.f8.params.toList ++ (OpenSpec.ofChange Rows.hyperModesSpec).bare.plain.varTypes Tryz.prog) (ds ++ gs)).all (· ≤reachBytes)=true):
 Calls Tryz.prog 8 args W fun e W'=> ∃ v,e=.returned v∧Rows.hyperModesSpec.post enc Tryz.prog Tryz.f8 false true false false W args v W':=by
 have hW':=hW
 obtain ⟨p,q,hA0,hV,rfl,hfz,hnd⟩:=hW
 have hA:DataW.TrodAll enc Tryz.prog W 0 (fun _=> true) true Tryz.f8.params.toList args.toList ds p:=hA0
 rw [Tryz.params8] at hA hval
 obtain ⟨v0,v1,v2,d0,d1,d2,p0,p1,p2,rfl,rfl,rfl,h0,h1,h2⟩:=trodAll_three hA
 obtain ⟨rfl,rfl⟩:=trodVars_none hV
 obtain ⟨vp,vw,vc,P,rfl,hpl,hfr⟩:=Hy.open_planR (hval 0 53 v0 rfl rfl) h0
 obtain ⟨l,him,hwl⟩:=Hy.open_images (hval 1 54 v1 rfl rfl) h1
 have hsl:=Hy.img_small (j:=1) hr (by kernel_rfl) rfl hwl
 obtain ⟨n,rfl,rfl,rfl,wn⟩:=open_int Tryz.underlying3 (hval 2 3 v2 rfl rfl) h2
 refine (Hy.LHyperModes vp vw vc v1 P l n W hpl hfr him hsl (tab_of hL)).mono fun e W' ⟨he,hb⟩=> ?_
 subst he
 exact ⟨_,rfl,law_post (tb:=4) hW' rfl rfl rfl rfl (by kernel_rfl) Tryz.underlying4 laid_outB (by rw [Tryz.params8];decide +kernel) hb⟩
abbrev zeros:Array Value:=#[.agg #[.slice none 0 0,.int .i64 0,.slice none 0 0,.slice none 0 0],.slice none 0 0,.int .i64 0]
theorem laid_met (os:Os):laidMet Tryz.prog Rows.hyperModesRow.laid ((laidWorld os).forCall (fun _ _=> 0) ⟨#[],zeros,[]⟩).memory:=
 laidMet_of_run' 8 (by kernel_rfl) (by kernel_rfl)
theorem reads (os:Os) {H:Type} (enc:TypeId × Value→H):∃ places,DataW.whole enc Tryz.prog ((laidWorld os).forCall (fun _ _=> 0) ⟨#[],zeros,[]⟩).memory Tryz.f8.params.toList Rows.hyperModesSpec.vars false zeros.toList 8=some ([.agg [.nil,.lit (.int .i64 0),.nil,.nil],.nil,.lit (.int .i64 0)],[],places):=
 ⟨[],by kernel_rfl⟩
theorem lifted (os:Os) (started:os.Started) (H:Type) (enc:TypeId × Value→H) (F:Stop.Interp):
 ReturnsInHanded {} Tryz.checked os 8 .any ((OpenSpec.ofChange Rows.hyperModesSpec).preRow enc Tryz.prog Tryz.f8 Rows.hyperModesRow.domain false Rows.hyperModesRow.laid) (((OpenSpec.ofChange Rows.hyperModesSpec).at F).post enc Tryz.prog Tryz.f8 false true false false):=by
 obtain ⟨places,hx⟩:=reads os enc
 refine returnsInHanded_of_row (C:=Tryz.checked) (s:=OpenSpec.ofChange Rows.hyperModesSpec) own started (by kernel_rfl) Tryz.func8
  (witness_row_at (enc:=enc) (C:=Tryz.checked) false (laidWorld os) zeros rfl (by kernel_rfl) (by kernel_rfl) (by kernel_rfl)
    (OpenSpec.preRow_of_cond 8 hx (by kernel_rfl) (fun k hk=> by cases hk) (by kernel_rfl) (laid_met os))) ?_
 intro W base args ds gs before hval hW _ hcond hr hL _ _
 exact contract H enc W base args ds gs before hval hW hL hr
theorem j0:(Rows.hyperModesRow.inPlace==Tryz.pinned.checked.prog.inPlace 8)=true:=by kernel_rfl
theorem j1:(Rows.hyperModesRow.unfollowed==Tryz.pinned.checked.prog.unfollowed 8)=true:=by kernel_rfl
theorem j2:(Rows.hyperModesRow.recurses==Tryz.pinned.checked.prog.recurses 8)=true:=by kernel_rfl
theorem j3:(Rows.hyperModesRow.named==Tryz.pinned.checked.prog.varsNamed 8)=true:=by kernel_rfl
theorem facts:joinedFacts Tryz.pinned.checked.prog 8 Tryz.f8 (OpenSpec.ofChange Rows.hyperModesSpec).bare Rows.hyperModesRow=true:=by
 unfold joinedFacts
 rw [j0,j1,j2,j3]
 kernel_rfl
theorem said:Rows.HyperModesSaid:=
 OpenClaim.holds_of_cond 8 Tryz.f8 rfl rfl rfl rfl rfl rfl rfl ⟨rfl,rfl,rfl,rfl,rfl⟩ rfl rfl rfl rfl rfl (by kernel_rfl) Tryz.func8 facts
  (of_decide_eq_true (by kernel_rfl)) (by unfold Func.isWrapper;first|(rw [if_pos (by decide +kernel)];kernel_rfl)|(rw [if_neg (by decide +kernel)];exact ⟨rfl,rfl⟩))
  (fun os started H enc _ F=> by rw [OpenClaim.pre_eq_preRow];exact lifted os started H enc F)
theorem plain (f:FuncId) (fn:Func) (hf:Tryz.pinned.checked.prog.funcNamed "transom/transomlaw16.HyperModes" =some f) (hfn:Tryz.pinned.checked.prog.funcs[f]? =some fn):
 false=Tryz.pinned.checked.prog.looks []∧∀ (j:Nat) t,fn.params[j]? =some t→Tryz.pinned.checked.prog.wantsStandIn t=false:=by
 obtain rfl:f=8:=Option.some.inj ((show Tryz.prog.funcNamed "transom/transomlaw16.HyperModes" =some 8 by kernel_rfl).symm.trans hf)|>.symm
 obtain rfl:fn=Tryz.f8:=(Option.some.inj (Tryz.func8.symm.trans hfn)).symm
 refine ⟨looks_off,fun j t ht=> ?_⟩
 have hm:=Array.mem_of_getElem? ht
 rw [Tryz.params8] at hm
 have hall:∀ t ∈ (#[53,54,3]:Array TypeId),Tryz.prog.wantsStandIn t=false:=by decide +kernel
 exact hall t hm
theorem card:Rows.HyperModesCardSaid:=
 Claim7.holds_tied_plain_at .later [] _ _ _ _ said (fun _ h=> by cases h) (by kernel_rfl) (fun _ h=> by cases h) hyperModes_row_tie rfl ⟨rfl,rfl⟩ (by kernel_rfl) rfl plain (by kernel_rfl)
#print axioms card
end Go.Proofs.YtbeakngieodlhaaGreatDoor.lawHyperModes
