/- The cycle's owner is the one that the plan tells. Conditions: as told. -/
import Derived.Test.YtfncknignkndiaaGreatDoorGHs
set_option linter.unusedVariables false
set_option maxRecDepth 100000
set_option maxHeartbeats 8000000
set_option linter.unusedSimpArgs false
namespace Go.Proofs.YtfncknignkndiaaGreatDoor
open Go.RowKit KR Kn RegT3
namespace Hy
theorem ycells_planO (y:YL) (m:cX):(aS y m).extract 0 (0 + 4)=eV y.vp y.vw y.vc m.p.fr:=by
 unfold aS eV;simp
theorem mstep_owner {n:Nat} {m:cX} (hg:dP n m):(gY m).owner=(if (wAt m.p m.sched m.now).2=2 then (wAt m.p m.sched m.now).1 else -1):=by
 have hm:(gY m).owner=(oQ m).owner:=by
  unfold gY qCw;split <;> rfl
 have hwo:(gA m).owner= -1:=by
  unfold gA;split
  · split <;> rfl
  · rfl
 rw [hm];unfold oQ;split
 · next h2=>
   have hlt:=qXt hg.ck (s:=m.sched) (t:=m.now) (by rw [h2];decide);have hl:(wAt m.p m.sched m.now).1.toNat<(gA m).seats.length:=by rw [hg.win.sl,(qEf m).1];omega
   rw [List.getElem?_eq_getElem hl]
 · exact hwo
theorem LHyperOwner (vp vw vc im:Value) (P:Pl.fH) (l:List (List ByteArray)) (n:Int) (w:World) (h:iF w vp vw vc P) (hfr:P.fr≤9223372036854775807) (him:tP w im l) (hl:∀ r ∈ l,r.length≤8796093022207) (hT:Tab w):
 Calls Tryz.prog 6 #[.agg (eV vp vw vc P.fr),im,.int .i64 n] w (aN (.bool true) w):=by
 obtain ⟨aw,cw,rfl⟩:=h.wins;obtain ⟨ai,ci,rfl,_⟩:=id him;obtain ⟨Wn,hW0,hb0,HP⟩:=nb1 (W:=w) (.cells (eV vp (.slice aw P.ws.length cw) vc P.fr) 53) rfl;have HB:=hU hb0;have HT:=hU (fun W (h:Below w.heap.size w W)=> hT.below h);have HPL:=hU (fun W (hb:Below w.heap.size w W)=> h.below hb);have HIM:=hU (fun W (hb:Below w.heap.size w W)=> him.below hb);have HBE:=hU (fun W (hb:Below w.heap.size w W)=> qNg vp (.slice aw P.ws.length cw) vc (.slice ai l.length ci) P l W (h.below hb) hfr (him.below hb) hl);clear hb0 h him hl hT;go_in;repeat' (first|(rw [hW0];clear hW0)|go_values|go_skip|go_guarded|refine wg ?_|go_step|go_upon)
 refine (qVa _ (HT.out _ HB.out)).mono ?_;rintro er Wn ⟨rfl,hb⟩;replace HP:=nB hb HP;replace HB:=nW hb HB;clear hb;dsimp only;refine sg ?_;intros;refine (HFew (.slice ai l.length ci) l _ (HIM.out _ HB.out)).mono ?_;rintro er Wx ⟨rfl,rfl⟩;obtain ⟨sm,hsm⟩:∃ sm,sW l=sm:=⟨_,rfl⟩
 rw [hsm];dsimp only;repeat' (first|(refine aE (t:=53) (v:=.agg (eV vp (.slice aw P.ws.length cw) vc P.fr)) rfl rfl rfl (aD zO HP.out rfl) ?_)|go_values|go_skip|go_guarded|refine wg ?_|go_step|go_upon)
 refine (HBE.out _ HB.out).mono ?_;rintro er Wn hg;obtain ⟨c,ck,rfl,hcs,hon,hb,hgo⟩:=hg.cells;clear hg HBE HIM;replace HP:=nB hb HP;replace HB:=nW hb HB;have HCS:=hU hcs;have HON:=hU hon;have HGO:=hU hgo;have hb9:Below Wn.heap.size Wn Wn:=Below.refl _ _;have HR:=hU hb9;clear hb hcs hon hgo hb9;obtain ⟨b5,hab5,hbz5⟩:=nbz HB;have hb5:=nlt HP hab5;obtain ⟨Wo,hWo⟩:∃ Wo,Wo=Wn:=⟨_,rfl⟩
 rw [← hWo] at HGO;replace HR:Hid (Below Wo.heap.size Wo Wn):=hU (by rw [hWo];exact Below.refl _ _);clear hWo;obtain ⟨W5,hW5,hba5,HZ5⟩:=nb1 (W:=Wn) (.cells zSy 61) hab5;dsimp only
 have hcase:sm=false∨sm=true∧ck ≠ 0∨sm=true∧ck=0∧n<0∨sm=true∧ck=0∧¬ n<0:=by
  cases sm
  · exact .inl rfl
  · by_cases h1:ck=0
    · by_cases h2:n<0
      · exact .inr (.inr (.inl ⟨rfl,h1,h2⟩))
      · exact .inr (.inr (.inr ⟨rfl,h1,h2⟩))
    · exact .inr (.inl ⟨rfl,h1⟩)
 rcases hcase with rfl|⟨rfl,hck⟩|⟨rfl,rfl,hn⟩|⟨rfl,rfl,hn⟩
 case' inr.inl=> have e1:(ck !=0)=true:=by simpa using hck
 case' inr.inr.inl=> have e2:decide (n<0)=true:=by simpa using hn
 case' inr.inr.inr=> have e2:decide (n<0)=false:=by simpa using hn
 all_goals repeat' (first
  |(rw [hW5,hab5];clear hW5)
  |(refine aK (t:=61) (v:=.agg c) (off:=0) (new:=c) rfl rfl rfl rfl dZ.size HZ5.out HCS.out (show 0 + 11≤11 by decide) HON.out (eD (by rw [show (Value.agg c).cells.size=11 from HCS.out];rfl)) ?_;intro Wn hp
    have hbb:=Below.put hba5 hp (Nat.le_of_eq hab5);replace HP:=nB hbb HP;replace HR:=hU (HR.out.trans (hbb.mono HR.out.size));replace HB:=nW hbb HB;have HQ:=pA hp;clear hbb hp hba5 HZ5 HON HCS)
  |go_values|go_skip|go_guarded|refine wg ?_|go_step|go_upon)
 rotate_left 1
 · go_ret;exact cF rfl HB.out
 · go_ret;exact cF rfl HB.out
 · go_ret;exact cF rfl HB.out
 clear e2;obtain ⟨hck,y,rfl,hs,hv⟩:=HGO.out rfl;obtain ⟨hgd,hwd⟩:=qN hck (qOx hsm);obtain ⟨m0,hm0⟩:∃ m0,m0=gE P l:=⟨_,rfl⟩
 have hp0:m0.p=P:=by rw [hm0];rfl
 rw [← hm0] at HQ hs hgd hwd;have HY:=hU (hs.below HR.out);have HV:=hU hv;obtain ⟨k,hk⟩:∃ k,k=(most 300 n).toNat:=⟨_,rfl⟩
 have hk3:k≤300:=by rw [hk];unfold most;split <;> omega
 have HRU:=hU (fun W hy ht=> HRun y m0 0 k (most 300 n) W hy hgd hwd hk (by omega) ht);have HG:=hU (hgd.run hwd (k:=k) (by omega));have HM:=hU (show (jO k m0).p=P by rw [qPm];exact hp0);have HM0:=hU hm0;clear hck hs hv hgd hwd HGO hm0 hp0 HR hsm hk;refine wp_region_noPanic ?_;refine go0 (S:=fun W=> W.heap[b5]? =some (.cells (aS y m0) 61 (0,0))) [4] HQ.out fun hS=> ?_;obtain ⟨Wd,hWd⟩:=exW Wn.drew;have hbd:=dW hWd;replace HP:=nB hbd HP;replace HQ:=nB hbd HQ;replace HY:=hU (HY.out.below hbd);replace HB:=nW hbd HB;rw [hWd] at hS ⊢;clear hWd hbd;refine tv 0 (.agg (aS y m0)) (fun W hSW=> aR rfl rfl (aD dZ hSW rfl)) ?_;(try simp only [aF])
 refine tp 1 ?_;(try simp only [aF])
 refine ro 2 fun K hK=> ?_;refine want rfl ?_;go_simp;refine (qYl n _).mono ?_;rintro er Wx ⟨rfl,rfl⟩;dsimp only;refine nx hK hS fun hS=> ?_;clear hK K hS;(try simp only [aF])
 refine ro 3 fun K hK=> ?_;refine want rfl ?_;go_simp;refine (HRU.out _ HY.out (HT.out _ HB.out)).mono ?_;rintro er Wn ⟨y1,rfl,hs,hv,hb⟩;obtain ⟨m1,hm1⟩:∃ m1,jO k m0=m1:=⟨_,rfl⟩
 rw [hm1] at HG HM hs ⊢;replace HP:=nB hb HP;replace HQ:=nB hb HQ;replace HB:=nW hb HB;replace HY:=hU hs;have HON:=hU (nT hs);have HV1:Hid (y1.vp=vp∧y1.vw=.slice aw P.ws.length cw∧y1.vc=vc):=hU ⟨hv.1.trans HV.out.1,hv.2.1.trans HV.out.2.1,hv.2.2.1.trans HV.out.2.2.1⟩;have HPM:Hid (∀ W,Below w.heap.size w W→iF W y1.vp y1.vw y1.vc m1.p):=hU (by rw [HV1.out.1,HV1.out.2.1,HV1.out.2.2,HM.out];exact HPL.out);have HM1:=hU hm1;clear hb hs hv HRU hm1 HV;dsimp only;refine nx hK HQ.out fun hS=> ?_;clear hK K hS;(try simp only [aF])
 refine ro 4 fun K hK=> ?_;refine want rfl ?_;refine cL (v:=.agg (aS y1 m1)) (off:=0) (new:=aS y1 m1) rfl rfl rfl dZ.size HQ.out rfl (show 0 + 11≤11 by decide) HON.out rfl ?_;intro Wn hp;have hB:=Below.put HB.out hp (by omega);replace HY:=hU (HY.out.put HQ.out hp (HPM.out _ hB) iX (by decide) (by decide) (by decide));replace HP:=pO hp HP;replace HQ:=pA hp;replace HB:=hU hB;clear hB hp HON;refine nt hK ?_;clear hK K;(try simp only [aF])
 refine aZ (by kernel_rfl) (NoPanic.normal ?_) _;have hsc:=HG.out.1.sc;have hnw0:=HG.out.1.nw0;have hnw1:=HG.out.1.nw1;rw [HM.out] at hsc;have hck1:=HG.out.1.ck;have HAT:=hU (fun W (hb:Below w.heap.size w W)=> RAt y1.vp y1.vw y1.vc m1.p m1.sched m1.now W (HPM.out W hb).pl hck1 (by rw [HM.out];exact hsc) hnw0 (by omega));have how:=mstep_owner HG.out.1;have HNW:Hid ((gY m1).now=m1.now + 1):=hU (qYf m1);have hwr:IntKind.u64.wrap (m1.now + 1)=m1.now + 1:=by rw [IntKind.wrap_u64];omega
 obtain ⟨a,ha⟩:∃ a,wAt m1.p m1.sched m1.now=a:=⟨_,rfl⟩
 rw [ha] at HAT how;clear ha hsc hnw0 hnw1 hck1;have HOW:=hU how;clear how;have c3:Wn.cell? ⟨b5,6,none⟩=some (.int .i64 m1.sched):=aC HQ.out 6;have c2:Wn.cell? ⟨b5,5,none⟩=some (.int .u64 m1.now):=aC HQ.out 5
 repeat' (first
  |(refine aE (t:=53) (v:=.agg (eV y1.vp y1.vw y1.vc m1.p.fr)) rfl rfl rfl (cB zO HQ.out (ycells_planO y1 m1) rfl) ?_)
  |go_values|go_skip|go_guarded|refine wg ?_|go_step|go_upon)
 clear c3 c2;refine (HAT.out _ HB.out).mono ?_;rintro er Wn ⟨rfl,hb⟩;replace HP:=nB hb HP;replace HQ:=nB hb HQ;replace HY:=hU (HY.out.below hb);replace HB:=nW hb HB;clear hb HAT;dsimp only;obtain ⟨hg1,hw1⟩:=HG.out;have HST:=hU (fun W hy ht=> qYn y1 m1 (0 + 15 * k) W hy hg1 hw1 (by omega) ht);have HG2:=hU (hg1.step hw1 (by omega));clear hg1 hw1;repeat' (first|(refine aE (t:=61) (v:=.agg (aS y1 m1)) rfl rfl rfl (aD dZ HQ.out rfl) ?_)|go_values|go_skip|go_guarded|refine wg ?_|go_step|go_upon)
 refine (HST.out _ HY.out (HT.out _ HB.out)).mono ?_;rintro er Wn ⟨y2,rfl,hs,hv,hb⟩;obtain ⟨m2,hm2⟩:∃ m2,gY m1=m2:=⟨_,rfl⟩
 have HM2:=hU hm2;rw [hm2] at hs HG2 ⊢;replace HP:=nB hb HP;replace HQ:=nB hb HQ;replace HB:=nW hb HB;replace HY:=hU (HY.out.below hb);have HY2:=hU hs;have HON:=hU (nT hs);clear hb hs hv HST hm2;dsimp only;obtain ⟨b6,hab6,hbz6⟩:=nbz HB;have hb56:=nlt HQ hab6;obtain ⟨W6,hW6,hba6,HZ6⟩:=nb1 (W:=Wn) (.cells zSy 61) hab6;rw [HM2.out] at HOW HNW;have hcase:a.2=2∨¬ a.2=2:=Decidable.em _;rcases hcase with h2|h2
 case' inl=>
  have e1:(a.2 !=2)=false:=by simp [h2]
  rw [if_pos h2] at HOW;have e2:(m2.owner==a.1)=true:=by rw [HOW.out];exact beq_self_eq_true _
 case' inr=>
  have e1:(a.2 !=2)=true:=by simp [h2]
  rw [if_neg h2] at HOW;have e2:(m2.owner== -1)=true:=by rw [HOW.out];rfl
 all_goals have e3:(m2.now==m1.now + 1)=true:=by rw [HNW.out];exact beq_self_eq_true _
 all_goals clear HOW HNW h2 HG HM HM2
 all_goals repeat' (first
  |go_skip
  |(rw [hW6,hab6];clear hW6)
  |(refine sN 61 (.agg (aS y2 m2)) 0 (aS y2 m2) dZ.size HZ6.out HON.out fun Wn hp=> ?_
    have hbb:=Below.put hba6 hp (Nat.le_of_eq hab6);replace HP:=nB hbb HP;replace HQ:=nB hbb HQ;replace HY:=hU (HY.out.below hbb);replace HY2:=hU (HY2.out.below hbb);replace HB:=nW hbb HB;have HK:=pA hp;clear hbb hp hba6 HZ6 HON;have d7:Wn.cell? ⟨b6,10,none⟩=some (.int .i64 m2.owner):=aC HK.out 10;have d5:Wn.cell? ⟨b6,5,none⟩=some (.int .u64 m2.now):=aC HK.out 5;have f5:Wn.cell? ⟨b5,5,none⟩=some (.int .u64 m1.now):=aC HQ.out 5)
  |go_values|go_skip|go_guarded|refine wg ?_|go_step|go_upon)
 all_goals go_ret
 all_goals exact cF rfl HB.out
end Hy
end Go.Proofs.YtfncknignkndiaaGreatDoor
namespace Go.Proofs.YtfncknignkndiaaGreatDoor.lawHyperOwner
open Go.ChangeShapes Go.WideShapes Go.ChangeAt Go.RowKit
theorem contract (H:Type) (enc:TypeId × Value→H) (W:World) (base:Nat) (args:Array Value) (ds gs:List (DataW H)) (before:List MemPlace)
 (hval:∀ (j:Nat) t v,Tryz.f6.params[j]? =some t→args[j]? =some v→Value.okWide Tryz.prog W .any base t v)
 (hW:DataW.Whole enc Tryz.prog Tryz.f6.params.toList Rows.hyperOwnerSpec.vars false W args.toList ds gs before) (hL:laidMetH Tryz.prog Rows.hyperOwnerRow.laid W)
 (hr:(DataW.weightsEach Tryz.prog (Tryz.f6.params.toList ++ (OpenSpec.ofChange Rows.hyperOwnerSpec).bare.plain.varTypes Tryz.prog) (ds ++ gs)).all (· ≤reachBytes)=true):
 Calls Tryz.prog 6 args W fun e W'=> ∃ v,e=.returned v∧Rows.hyperOwnerSpec.post enc Tryz.prog Tryz.f6 false true false false W args v W':=by
 have hW':=hW;obtain ⟨p,q,hA0,hV,rfl,hfz,hnd⟩:=hW;have hA:DataW.TrodAll enc Tryz.prog W 0 (fun _=> true) true Tryz.f6.params.toList args.toList ds p:=hA0;rw [Tryz.params6] at hA hval;obtain ⟨v0,v1,v2,d0,d1,d2,p0,p1,p2,rfl,rfl,rfl,h0,h1,h2⟩:=trodAll_three hA;obtain ⟨rfl,rfl⟩:=trodVars_none hV;obtain ⟨vp,vw,vc,P,rfl,hpl,hfr⟩:=Hy.qXd (hval 0 53 v0 rfl rfl) h0;obtain ⟨l,him,hwl⟩:=Hy.qUm (hval 1 54 v1 rfl rfl) h1;have hsl:=Hy.qYc (j:=1) hr (by kernel_rfl) rfl hwl;obtain ⟨n,rfl,rfl,rfl,wn⟩:=open_int Tryz.underlying3 (hval 2 3 v2 rfl rfl) h2;refine (Hy.LHyperOwner vp vw vc v1 P l n W hpl hfr him hsl (xAo hL)).mono fun e W' ⟨he,hb⟩=> ?_;subst he;exact ⟨_,rfl,law_post (tb:=4) hW' rfl rfl rfl rfl (by kernel_rfl) Tryz.underlying4 qYd (by rw [Tryz.params6];decide +kernel) hb⟩
abbrev qQt:Array Value:=#[.agg #[.slice none 0 0,.int .i64 0,.slice none 0 0,.slice none 0 0],.slice none 0 0,.int .i64 0]
theorem laid_met (os:Os):laidMet Tryz.prog Rows.hyperOwnerRow.laid ((laidWorld os).forCall (fun _ _=> 0) ⟨#[],qQt,[]⟩).memory:=
 laidMet_of_run' 8 (by kernel_rfl) (by kernel_rfl)
theorem reads (os:Os) {H:Type} (enc:TypeId × Value→H):∃ places,DataW.whole enc Tryz.prog ((laidWorld os).forCall (fun _ _=> 0) ⟨#[],qQt,[]⟩).memory Tryz.f6.params.toList Rows.hyperOwnerSpec.vars false qQt.toList 8=some ([.agg [.nil,.lit (.int .i64 0),.nil,.nil],.nil,.lit (.int .i64 0)],[],places):=
 ⟨[],by kernel_rfl⟩
theorem lifted (os:Os) (started:os.Started) (H:Type) (enc:TypeId × Value→H) (F:Stop.Interp):
 ReturnsInHanded {} Tryz.checked os 6 .any ((OpenSpec.ofChange Rows.hyperOwnerSpec).preRow enc Tryz.prog Tryz.f6 Rows.hyperOwnerRow.domain false Rows.hyperOwnerRow.laid) (((OpenSpec.ofChange Rows.hyperOwnerSpec).at F).post enc Tryz.prog Tryz.f6 false true false false):=by
 obtain ⟨places,hx⟩:=reads os enc
 refine returnsInHanded_of_row (C:=Tryz.checked) (s:=OpenSpec.ofChange Rows.hyperOwnerSpec) own started (by kernel_rfl) Tryz.func6
  (witness_row_at (enc:=enc) (C:=Tryz.checked) false (laidWorld os) qQt rfl (by kernel_rfl) (by kernel_rfl) (by kernel_rfl)
    (OpenSpec.preRow_of_cond 8 hx (by kernel_rfl) (fun k hk=> by cases hk) (by kernel_rfl) (laid_met os))) ?_
 intro W base args ds gs before hval hW _ hcond hr hL _ _;exact contract H enc W base args ds gs before hval hW hL hr
theorem j0:(Rows.hyperOwnerRow.inPlace==Tryz.pinned.checked.prog.inPlace 6)=true:=by kernel_rfl
theorem j1:(Rows.hyperOwnerRow.unfollowed==Tryz.pinned.checked.prog.unfollowed 6)=true:=by kernel_rfl
theorem j2:(Rows.hyperOwnerRow.recurses==Tryz.pinned.checked.prog.recurses 6)=true:=by kernel_rfl
theorem j3:(Rows.hyperOwnerRow.named==Tryz.pinned.checked.prog.varsNamed 6)=true:=by kernel_rfl
theorem facts:joinedFacts Tryz.pinned.checked.prog 6 Tryz.f6 (OpenSpec.ofChange Rows.hyperOwnerSpec).bare Rows.hyperOwnerRow=true:=by
 unfold joinedFacts;rw [j0,j1,j2,j3];kernel_rfl
theorem said:Rows.HyperOwnerSaid:=
 OpenClaim.holds_of_cond 6 Tryz.f6 rfl rfl rfl rfl rfl rfl rfl ⟨rfl,rfl,rfl,rfl,rfl⟩ rfl rfl rfl rfl rfl (by kernel_rfl) Tryz.func6 facts
  (of_decide_eq_true (by kernel_rfl)) (by unfold Func.isWrapper;first|(rw [if_pos (by decide +kernel)];kernel_rfl)|(rw [if_neg (by decide +kernel)];exact ⟨rfl,rfl⟩))
  (fun os started H enc _ F=> by rw [OpenClaim.pre_eq_preRow];exact lifted os started H enc F)
theorem plain (f:FuncId) (fn:Func) (hf:Tryz.pinned.checked.prog.funcNamed "transom/transomlaw16.HyperOwner" =some f) (hfn:Tryz.pinned.checked.prog.funcs[f]? =some fn):
 false=Tryz.pinned.checked.prog.looks []∧∀ (j:Nat) t,fn.params[j]? =some t→Tryz.pinned.checked.prog.wantsStandIn t=false:=by
 obtain rfl:f=6:=Option.some.inj ((show Tryz.prog.funcNamed "transom/transomlaw16.HyperOwner" =some 6 by kernel_rfl).symm.trans hf)|>.symm
 obtain rfl:fn=Tryz.f6:=(Option.some.inj (Tryz.func6.symm.trans hfn)).symm;refine ⟨qYe,fun j t ht=> ?_⟩;have hm:=Array.mem_of_getElem? ht;rw [Tryz.params6] at hm;have hall:∀ t ∈ (#[53,54,3]:Array TypeId),Tryz.prog.wantsStandIn t=false:=by decide +kernel
 exact hall t hm
theorem card:Rows.HyperOwnerCardSaid:=
 Claim7.holds_tied_plain_at .later [] _ _ _ _ said (fun _ h=> by cases h) (by kernel_rfl) (fun _ h=> by cases h) hyperOwner_row_tie rfl ⟨rfl,rfl⟩ (by kernel_rfl) rfl plain (by kernel_rfl)
#print axioms card
end Go.Proofs.YtfncknignkndiaaGreatDoor.lawHyperOwner
