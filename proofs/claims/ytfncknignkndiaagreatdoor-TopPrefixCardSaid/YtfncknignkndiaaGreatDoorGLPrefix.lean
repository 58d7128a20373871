/- What the law is asked of, as it comes in. Conditions: as told. -/
import Derived.Test.YtfncknignkndiaaGreatDoorGTs
set_option linter.unusedVariables false
set_option maxRecDepth 100000
set_option maxHeartbeats 8000000
set_option linter.unusedSimpArgs false
namespace Go.Proofs.YtfncknignkndiaaGreatDoor
open Go.ChangeShapes Go.WideShapes Go.ChangeAt Go.RowKit Go.Joins Go.Deep KR Kn
namespace Hy
section
variable {H:Type} {enc:TypeId × Value→H} {w:World} {base b:Nat} {sp:Nat→Bool} {hd:Bool} {r:Reach}
theorem open_inTopPrefix {v:Value} {d:DataW H} {p:List MemPlace} (hv:Value.okWide Tryz.prog w r base 56 v) (h:DataW.Trod enc Tryz.prog w b sp hd 56 v d p):
 ∃ vp vw vc im P l n more part,v=.agg #[vp,.int .i64 (Pl.fH.fr P),vw,vc,im,.int .i64 n,.int .i64 more,.int .i64 part]∧iF w vp vw vc P∧P.fr≤9223372036854775807∧tP w im l∧(∀ y ∈ l,y=[]∨∃ m,y.length≤m∧m * 16 ∈ d.weights Tryz.prog 56)∧(Lit.int .i64 n).wf=true∧(Lit.int .i64 more).wf=true∧(Lit.int .i64 part).wf=true:=by
 obtain ⟨cs,rfl,hsz⟩:=okWide_struct Tryz.underlying56 hv;rw [show Tryz.prog.cellsOf 56=8 by kernel_rfl] at hsz;obtain ⟨fuel,hf⟩:=h;obtain ⟨l0⟩:=cs;match l0,hsz with
 |[c0,c1,c2,c3,c4,c5,c6,c7],_=>
  obtain ⟨xs,n,_,hx2,_,hlen,hge⟩:=DataW.trod_struct Tryz.underlying56 hf;have hx:xs.length=5:=hlen;have g0:DataW.trod enc Tryz.prog w b sp hd n 53 (([c0,c1,c2,c3,c4,c5,c6,c7].drop 0).take (Tryz.prog.cellsOf 53))=xs[0]? :=hge 0 _ rfl;rw [List.getElem?_eq_getElem (by omega),show Tryz.prog.cellsOf 53=4 by kernel_rfl] at g0;have e0:DataW.trod enc Tryz.prog w b sp hd n 53 [c0,c1,c2,c3]=some (xs[0]'(by omega)):=g0;have g1:DataW.trod enc Tryz.prog w b sp hd n 54 (([c0,c1,c2,c3,c4,c5,c6,c7].drop 4).take (Tryz.prog.cellsOf 54))=xs[1]? :=hge 1 _ rfl;rw [List.getElem?_eq_getElem (by omega),show Tryz.prog.cellsOf 54=1 by kernel_rfl] at g1;have e1:DataW.trod enc Tryz.prog w b sp hd n 54 [c4]=some (xs[1]'(by omega)):=g1;have g2:DataW.trod enc Tryz.prog w b sp hd n 3 (([c0,c1,c2,c3,c4,c5,c6,c7].drop 5).take (Tryz.prog.cellsOf 3))=xs[2]? :=hge 2 _ rfl;rw [List.getElem?_eq_getElem (by omega),show Tryz.prog.cellsOf 3=1 by kernel_rfl] at g2;have e2:DataW.trod enc Tryz.prog w b sp hd n 3 [c5]=some (xs[2]'(by omega)):=g2;have g3:DataW.trod enc Tryz.prog w b sp hd n 3 (([c0,c1,c2,c3,c4,c5,c6,c7].drop 6).take (Tryz.prog.cellsOf 3))=xs[3]? :=hge 3 _ rfl;rw [List.getElem?_eq_getElem (by omega),show Tryz.prog.cellsOf 3=1 by kernel_rfl] at g3;have e3:DataW.trod enc Tryz.prog w b sp hd n 3 [c6]=some (xs[3]'(by omega)):=g3;have g4:DataW.trod enc Tryz.prog w b sp hd n 3 (([c0,c1,c2,c3,c4,c5,c6,c7].drop 7).take (Tryz.prog.cellsOf 3))=xs[4]? :=hge 4 _ rfl;rw [List.getElem?_eq_getElem (by omega),show Tryz.prog.cellsOf 3=1 by kernel_rfl] at g4;have e4:DataW.trod enc Tryz.prog w b sp hd n 3 [c7]=some (xs[4]'(by omega)):=g4;obtain ⟨P,rfl,hpl,hfr⟩:=qIh e0;obtain ⟨l,him,hwl⟩:=qEl e1;obtain ⟨n,rfl,w0⟩:=fI e2;obtain ⟨more,rfl,w1⟩:=fI e3;obtain ⟨part,rfl,w2⟩:=fI e4;obtain rfl:=(Prod.mk.inj hx2).1;refine ⟨_,_,_,_,P,l,_,_,_,rfl,hpl,hfr,him,fun y hy=> (hwl y hy).imp id (fun ⟨m,h1,h2⟩=> ⟨m,h1,?_⟩),w0,w1,w2⟩;unfold DataW.weights;rw [Tryz.underlying56];dsimp only;refine DataW.weights_mem_each (j:=1) (t:=54) (d:=xs[1].1) (by rfl) ?_ _ h2;rw [List.getElem?_map,List.getElem?_eq_getElem (by omega)];rfl
end
end Hy
end Go.Proofs.YtfncknignkndiaaGreatDoor
namespace Go.Proofs.YtfncknignkndiaaGreatDoor
open Go.RowKit KR Kn RegT3
namespace Hy
theorem scells_at {y:Lay} {s:dU} {j:Nat} {u:Value} (h:(aJ y s.k)[j]? =some u):(aY y s)[j]? =some u:=by
 have hj:j<17:=(Array.getElem?_eq_some_iff.1 h).1;unfold aJ at h;unfold aY;rcases j with _|_|_|_|_|_|_|_|_|_|_|_|_|_|_|_|_|j <;> first|exact h|(exfalso;omega)
theorem wpL_cast {P:Program} {md:Region.Mode} {ops:Array Oper} {Q:Exit→Act→World→Prop} {S:World→Prop} {st:List Nat} {f f':Nat} {l l':Array Bool} {a:Act} {w:World} (h:wpL P md ops Q S st f l a w) (hl:l=l':=by kernel_rfl) (hf:f=f':=by kernel_rfl):wpL P md ops Q S st f' l' a w:=by
 subst hl hf;exact h
theorem cut_leftT (a b:ByteArray):(a ++ b).extract 0 a.size=a:=by
 apply ByteArray.ext;rw [ByteArray.data_extract,ByteArray.data_append];show (a.data ++ b.data).extract 0 a.data.size=a.data
 rw [Array.extract_append_left,Array.extract_size]
theorem hcellv {W:World} {b:Nat} {cs:Array Value} {T:TypeId} (h:W.heap[b]? =some (.cells cs T (0,0))) {j:Nat} {v:Value} (hv:cs[j]? =some v):W.cell? ⟨b,j,none⟩=some v:=by
 simp [World.cell?,h,hv]
theorem LTopPrefix (vp vw vc im:Value) (P:Pl.fH) (l:List (List ByteArray)) (n more part:Int) (w:World) (h:iF w vp vw vc P) (hfr:P.fr≤9223372036854775807) (him:tP w im l) (hl:∀ r ∈ l,r.length≤8796093022207) (hT:Tab w):
 Calls Tryz.prog 4 #[.agg #[vp,.int .i64 P.fr,vw,vc,im,.int .i64 n,.int .i64 more,.int .i64 part]] w (aN (.bool true) w):=by
 obtain ⟨aw,cw,rfl⟩:=h.wins;obtain ⟨ai,ci,rfl,_⟩:=id him;obtain ⟨Wn,hW0,hb0,HP⟩:=nb1 (W:=w) (.cells #[vp,.int .i64 P.fr,.slice aw P.ws.length cw,vc,.slice ai l.length ci,.int .i64 n,.int .i64 more,.int .i64 part] 56) rfl;have HB:=hU hb0;have HT:=hU (fun W (h:Below w.heap.size w W)=> hT.below h);have HPL:=hU (fun W (hb:Below w.heap.size w W)=> h.below hb);have HIM:=hU (fun W (hb:Below w.heap.size w W)=> him.below hb);have HBE:=hU (fun W (hb:Below w.heap.size w W)=> qNg vp (.slice aw P.ws.length cw) vc (.slice ai l.length ci) P l W (h.below hb) hfr (him.below hb) hl);clear hb0 h him hl hT;go_in;repeat' (first|(rw [hW0];clear hW0)|go_values|go_skip|go_guarded|refine wg ?_|go_step|go_upon)
 refine (qVa _ (HT.out _ HB.out)).mono ?_;rintro er Wn ⟨rfl,hb⟩;replace HP:=nB hb HP;replace HB:=nW hb HB;clear hb;dsimp only;have p4:Wn.cell? ⟨w.heap.size,4,none⟩=some (.slice ai l.length ci):=aC HP.out 4;refine sg ?_;intros;refine (HFew (.slice ai l.length ci) l _ (HIM.out _ HB.out)).mono ?_;rintro er Wx ⟨rfl,rfl⟩;obtain ⟨sm,hsm⟩:∃ sm,sW l=sm:=⟨_,rfl⟩
 rw [hsm];dsimp only;repeat' (first|(refine aE (t:=53) (v:=.agg (eV vp (.slice aw P.ws.length cw) vc P.fr)) rfl rfl rfl (cB zO HP.out (by unfold eV;simp) rfl) ?_)|go_values|go_skip|go_guarded|refine wg ?_|go_step|go_upon)
 clear p4;refine (HBE.out _ HB.out).mono ?_;rintro er Wn hg;obtain ⟨c,ck,rfl,hcs,hon,hb,hgo⟩:=hg.cells;clear hg HBE HIM;replace HP:=nB hb HP;replace HB:=nW hb HB;have HCS:=hU hcs;have HON:=hU hon;have hb9:Below Wn.heap.size Wn Wn:=Below.refl _ _;have HR:=hU hb9;clear hb hcs hon hb9;obtain ⟨b5,hab5,hbz5⟩:=nbz HB;have hb5:=nlt HP hab5;obtain ⟨Wo,hWo⟩:∃ Wo,Wo=Wn:=⟨_,rfl⟩
 rw [← hWo] at hgo;replace HR:Hid (Below Wo.heap.size Wo Wn):=hU (by rw [hWo];exact Below.refl _ _);clear hWo;obtain ⟨W5,hW5,hba5,HZ5⟩:=nb1 (W:=Wn) (.cells zSy 61) hab5
 have hcase:sm=false∨sm=true∧ck ≠ 0∨sm=true∧ck=0∧part<0∨sm=true∧ck=0∧¬ part<0:=by
  cases sm
  · exact .inl rfl
  · by_cases h1:ck=0
    · by_cases h2:part<0
      · exact .inr (.inr (.inl ⟨rfl,h1,h2⟩))
      · exact .inr (.inr (.inr ⟨rfl,h1,h2⟩))
    · exact .inr (.inl ⟨rfl,h1⟩)
 dsimp only;have HGO:=hU hgo;clear hgo;rcases hcase with rfl|⟨rfl,hck⟩|⟨rfl,rfl,hn⟩|⟨rfl,rfl,hn⟩
 case' inr.inl=> have e1:(ck !=0)=true:=by simpa using hck
 case' inr.inr.inl=> have e2:decide (part<0)=true:=by simpa using hn
 case' inr.inr.inr=>
  have e2:decide (part<0)=false:=by simpa using hn
  obtain ⟨hck,y,hyc,hs,hv⟩:=HGO.out rfl;obtain ⟨a8,cp8,hse8,_,_⟩:=hs.se.1.shape;have hl1:y.ls.length=(gE P l).seats.length:=hs.len.1;rw [hl1] at hse8;obtain ⟨m0,hm0⟩:∃ m0,m0=gE P l:=⟨_,rfl⟩
  rw [← hm0] at hyc hs hse8;have HE8:Hid (c[8]? =some (.slice a8 m0.seats.length cp8)):=hU (by rw [hyc,← hse8];rfl);have HYC:=hU hyc;have HS:=hU hs;have HM0:=hU hm0;clear hyc hs hse8 hl1 HGO hm0;rcases Decidable.em (part<(m0.seats.length:Int)) with hx|hx
 case' inr.inr.inr.inl=> have e3:decide ((m0.seats.length:Int)≤part)=false:=by simp;omega
 case' inr.inr.inr.inr=> have e3:decide ((m0.seats.length:Int)≤part)=true:=by simp;omega
 all_goals repeat' (first
  |go_skip
  |(rw [hW5,hab5];clear hW5)
  |(refine aK (t:=61) (v:=.agg c) (off:=0) (new:=c) rfl rfl rfl rfl dZ.size HZ5.out HCS.out (show 0 + 11≤11 by decide) HON.out (eD (by rw [show (Value.agg c).cells.size=11 from HCS.out];rfl)) ?_;intro Wn hp
    have hbb:=Below.put hba5 hp (Nat.le_of_eq hab5);replace HP:=nB hbb HP;replace HR:=hU (HR.out.trans (hbb.mono HR.out.size));replace HB:=nW hbb HB;have HQ:=pA hp;have p7:Wn.cell? ⟨w.heap.size,7,none⟩=some (.int .i64 part):=aC HP.out 7;have HC8:=hU (fun (v:Value) (h:c[8]? =some v)=> (show Wn.cell? ⟨b5,8,none⟩=some v from hcellv HQ.out h));try (have c8:=HC8.out _ HE8.out)
    clear HC8;clear hbb hp hba5 HZ5 HON HCS)
  |go_values|go_skip|go_guarded|refine wg ?_|go_step|go_upon)
 · go_ret;exact cF rfl HB.out
 rotate_left 1
 · go_ret;exact cF rfl HB.out
 · go_ret;exact cF rfl HB.out
 · go_ret;exact cF rfl HB.out
 clear e2 e3;obtain ⟨hgd,hwd⟩:=qN hck (qOx hsm);rw [← HM0.out] at hgd hwd;have HY:=hU (HS.out.below HR.out);obtain ⟨k1,hk1⟩:∃ k,k=(qGy n).toNat:=⟨_,rfl⟩
 have hk1m:k1≤600:=by have:=xAf n;omega
 have HRU:=hU (fun W hy ht=> HRun y m0 0 k1 (qGy n) W hy hgd hwd hk1 (by omega) ht);have HG1:=hU (hgd.run hwd (k:=k1) (by omega));have HGR:=hU (qMb hgd hwd (k:=k1) (by omega));obtain rfl:=HYC.out;have HPM:Hid (∀ W,Below w.heap.size w W→iF W y.vp y.vw y.vc m0.p):=hU (by rw [hv.1,hv.2.1,hv.2.2.1,HM0.out];exact HPL.out);have hm0p:m0.seats.length=m0.p.ps.length:=hgd.sl;have HM0S:=hU hm0p;clear hm0p hgd hwd hv hck hsm HR hk1;refine wp_region_noPanic ?_;refine go0 (S:=fun W=> W.heap[b5]? =some (.cells (aS y m0) 61 (0,0))∧W.cell? ⟨w.heap.size,5,none⟩=some (.int .i64 n)) [6] (⟨HQ.out,aC HP.out 5⟩) fun hS=> ?_;obtain ⟨Wd,hWd⟩:=exW Wn.drew;have hbd:=dW hWd;replace HP:=nB hbd HP;replace HQ:=nB hbd HQ;replace HB:=nW hbd HB;replace HY:=hU (HY.out.below hbd);rw [hWd] at hS ⊢;clear hWd hbd;refine tv 0 (.agg (aS y m0)) (fun W hSW=> aR rfl rfl (aD dZ hSW.1 rfl)) ?_;(try simp only [aF])
 refine tp 1 ?_;(try simp only [aF])
 refine tl 2 ?_;(try simp only [aF])
 clear hS;revert HP HQ HB HY;apply KR.xAt (F:=fun (b7:Nat) (y1:YL) (Wn:World)=> Hid (Wn.heap[w.heap.size]? =some (.cells #[vp,.int .i64 P.fr,.slice aw P.ws.length cw,vc,.slice ai l.length ci,.int .i64 n,.int .i64 more,.int .i64 part] 56 (0,0)))∧Hid (Wn.heap[b5]? =some (.cells (aS y m0) 61 (0,0)))∧Hid (Below w.heap.size w Wn)∧Hid (cW Wn y m0)∧Hid (cW Wn y1 (jO k1 m0))∧Hid (Wn.heap[b7]? =some (.cells zSy 61 (0,0)))∧b5<b7∧Hid (y1.vp=y.vp∧y1.vw=y.vw∧y1.vc=y.vc∧y1.im=y.im))
 case h2=>
  intro hj HP HQ HB HY;refine oT (i:=3) (j:=5) (by kernel_rfl) rfl rfl (fun K hK=> ?_) (fun K hK=> ?_)
  · refine want rfl ?_;go_simp;refine (qYl n _).mono ?_;rintro er Wx ⟨rfl,rfl⟩;dsimp only;refine nx hK (⟨HQ.out,aC HP.out 5⟩) fun hS=> ?_;clear hK K hS;(try simp only [aF])
    refine oT (i:=4) (j:=5) (by kernel_rfl) rfl rfl (fun K hK=> ?_) (fun K hK=> ?_)
    · refine want rfl ?_;go_simp;refine (HRU.out _ HY.out (HT.out _ HB.out)).mono ?_;rintro er Wr ⟨y1,rfl,hs,hv,hb⟩;replace HP:=nB hb HP;replace HQ:=nB hb HQ;replace HB:=nW hb HB;replace HY:=hU (HY.out.below hb);have HZ:=hU hs;have HV:=hU hv;clear hb hs hv;dsimp only;refine nx hK (⟨HQ.out,aC HP.out 5⟩) fun hS=> ?_;clear hK K hS;(try simp only [aF])
      refine ro 5 fun K hK=> ?_;go_simp;obtain ⟨b7,hab,hbz⟩:=nbz HB;have hbn:=nlt HQ hab;obtain ⟨Wa,hWn,hba,HN⟩:=nb1 (W:=_) (.cells zSy 61) hab;rw [hWn];clear hWn;replace HP:=nB hba HP;replace HQ:=nB hba HQ;replace HB:=nW hba HB;replace HY:=hU (HY.out.below hba);replace HZ:=hU (HZ.out.below hba);clear hba;try rw [hab]
      clear hab;refine nx hK (⟨HQ.out,aC HP.out 5⟩) fun hS=> ?_;clear hK K hS;(try simp only [aF])
      exact hj b7 y1 Wa ⟨HP,HQ,HB,HY,HZ,HN,hbn,HV⟩
    · go_simp;obtain ⟨b7,hab,hbz⟩:=nbz HB;have hbn:=nlt HQ hab;obtain ⟨Wa,hWn,hba,HN⟩:=nb1 (W:=_) (.cells zSy 61) hab;rw [hWn];clear hWn;replace HP:=nB hba HP;replace HQ:=nB hba HQ;replace HB:=nW hba HB;replace HY:=hU (HY.out.below hba);clear hba;try rw [hab]
      clear hab;refine nx hK (⟨HQ.out,aC HP.out 5⟩) fun hS=> ?_;clear hK K hS;(try simp only [aF])
      refine ro 4 fun K hK=> ?_;refine want rfl ?_;go_simp;refine (HRU.out _ HY.out (HT.out _ HB.out)).mono ?_;rintro er Wr ⟨y1,rfl,hs,hv,hb⟩;replace HP:=nB hb HP;replace HQ:=nB hb HQ;replace HB:=nW hb HB;replace HY:=hU (HY.out.below hb);replace HN:=nB hb HN;have HZ:=hU hs;have HV:=hU hv;clear hb hs hv;dsimp only;refine nx hK (⟨HQ.out,aC HP.out 5⟩) fun hS=> ?_;clear hK K hS;(try simp only [aF])
      exact wpL_cast (hj b7 y1 Wr ⟨HP,HQ,HB,HY,HZ,HN,hbn,HV⟩)
  · go_simp;obtain ⟨b7,hab,hbz⟩:=nbz HB;have hbn:=nlt HQ hab;obtain ⟨Wa,hWn,hba,HN⟩:=nb1 (W:=_) (.cells zSy 61) hab;rw [hWn];clear hWn;replace HP:=nB hba HP;replace HQ:=nB hba HQ;replace HB:=nW hba HB;replace HY:=hU (HY.out.below hba);clear hba;try rw [hab]
    clear hab;refine nx hK (⟨HQ.out,aC HP.out 5⟩) fun hS=> ?_;clear hK K hS;(try simp only [aF])
    refine ro 3 fun K hK=> ?_;refine want rfl ?_;go_simp;refine (qYl n _).mono ?_;rintro er Wx ⟨rfl,rfl⟩;dsimp only;refine nx hK (⟨HQ.out,aC HP.out 5⟩) fun hS=> ?_;clear hK K hS;(try simp only [aF])
    refine ro 4 fun K hK=> ?_;refine want rfl ?_;go_simp;refine (HRU.out _ HY.out (HT.out _ HB.out)).mono ?_;rintro er Wr ⟨y1,rfl,hs,hv,hb⟩;replace HP:=nB hb HP;replace HQ:=nB hb HQ;replace HB:=nW hb HB;replace HY:=hU (HY.out.below hb);replace HN:=nB hb HN;have HZ:=hU hs;have HV:=hU hv;clear hb hs hv;dsimp only;refine nx hK (⟨HQ.out,aC HP.out 5⟩) fun hS=> ?_;clear hK K hS;(try simp only [aF])
    exact wpL_cast (hj b7 y1 Wr ⟨HP,HQ,HB,HY,HZ,HN,hbn,HV⟩)
 rintro b7 y1 Wn ⟨HP,HQ,HB,HY,HZ,HN,hbn,HV⟩;obtain ⟨m1,hm1⟩:∃ m,jO k1 m0=m:=⟨_,rfl⟩
 rw [hm1] at HZ ⊢;have HMm1:=hU hm1;clear hm1;have HON:=hU (nT HZ.out);refine ro 6 fun K hK=> ?_;refine want rfl ?_;refine cL (v:=.agg (aS y1 m1)) (off:=0) (new:=aS y1 m1) rfl rfl rfl dZ.size HN.out rfl (show 0 + 11≤11 by decide) HON.out rfl ?_;intro Wn hp;have hB:=Below.put HB.out hp (by omega)
 have hpl:∀ W,Below w.heap.size w W→iF W y1.vp y1.vw y1.vc m1.p:=by
  rw [HV.out.1,HV.out.2.1,HV.out.2.2.1,← HMm1.out,qPm];exact HPM.out
 replace HZ:=hU (HZ.out.put HN.out hp (hpl _ hB) iX (by decide) (by decide) (by decide));replace HY:=hU (HY.out.put HN.out hp (HPM.out _ hB) iX (by decide) (by decide) (by decide));replace HPM:=hU hpl;replace HP:=pO hp HP;replace HQ:=pO hp HQ;have Hb7:=pA hp;replace HB:=hU hB;clear hB hp HON HN HV hpl;refine nt hK ?_;clear hK K;(try simp only [aF])
 refine aZ (by kernel_rfl) (NoPanic.normal ?_) _;refine sg ?_;intros;clear HY HQ;replace HY:=HZ;clear HZ;rw [HMm1.out] at HG1 HGR;clear HGR;obtain ⟨hgd1,hwd1⟩:=HG1.out;obtain ⟨k2,hk2⟩:∃ k,k=(qGy more).toNat:=⟨_,rfl⟩
 have hk2m:k2≤600:=by have:=xAf more;omega
 have HRU2:=hU (fun W hy ht=> HRun y1 m1 (0 + 15 * k1) k2 (qGy more) W hy hgd1 hwd1 hk2 (by omega) ht);have HG2:=hU (hgd1.run hwd1 (k:=k2) (by omega));have HGR:=hU (qMb hgd1 hwd1 (k:=k2) (by omega));clear hgd1 hwd1 HRU hk2;refine wp_region_noPanic ?_;refine go0 (S:=fun W=> W.heap[b7]? =some (.cells (aS y1 m1) 61 (0,0))∧W.cell? ⟨w.heap.size,6,none⟩=some (.int .i64 more)) [6] (⟨Hb7.out,aC HP.out 6⟩) fun hS=> ?_;obtain ⟨Wd,hWd⟩:=exW Wn.drew;have hbd:=dW hWd;replace HP:=nB hbd HP;replace Hb7:=nB hbd Hb7;replace HB:=nW hbd HB;replace HY:=hU (HY.out.below hbd);rw [hWd] at hS ⊢;clear hWd hbd;refine tv 0 (.agg (aS y1 m1)) (fun W hSW=> aR rfl rfl (aD dZ hSW.1 rfl)) ?_;(try simp only [aF])
 refine tp 1 ?_;(try simp only [aF])
 refine tl 2 ?_;(try simp only [aF])
 clear hS;revert HP Hb7 HB HY;apply KR.xAt (F:=fun (b8:Nat) (y2:YL) (Wn:World)=> Hid (Wn.heap[w.heap.size]? =some (.cells #[vp,.int .i64 P.fr,.slice aw P.ws.length cw,vc,.slice ai l.length ci,.int .i64 n,.int .i64 more,.int .i64 part] 56 (0,0)))∧Hid (Wn.heap[b7]? =some (.cells (aS y1 m1) 61 (0,0)))∧Hid (Below w.heap.size w Wn)∧Hid (cW Wn y1 m1)∧Hid (cW Wn y2 (jO k2 m1))∧Hid (Wn.heap[b8]? =some (.cells zSy 61 (0,0)))∧b7<b8∧Hid (y2.vp=y1.vp∧y2.vw=y1.vw∧y2.vc=y1.vc∧y2.im=y1.im))
 case h2=>
  intro hj HP Hb7 HB HY;refine oT (i:=3) (j:=5) (by kernel_rfl) rfl rfl (fun K hK=> ?_) (fun K hK=> ?_)
  · refine want rfl ?_;go_simp;refine (qYl more _).mono ?_;rintro er Wx ⟨rfl,rfl⟩;dsimp only;refine nx hK (⟨Hb7.out,aC HP.out 6⟩) fun hS=> ?_;clear hK K hS;(try simp only [aF])
    refine oT (i:=4) (j:=5) (by kernel_rfl) rfl rfl (fun K hK=> ?_) (fun K hK=> ?_)
    · refine want rfl ?_;go_simp;refine (HRU2.out _ HY.out (HT.out _ HB.out)).mono ?_;rintro er Wr ⟨y2,rfl,hs,hv,hb⟩;replace HP:=nB hb HP;replace Hb7:=nB hb Hb7;replace HB:=nW hb HB;replace HY:=hU (HY.out.below hb);have HZ:=hU hs;have HV:=hU hv;clear hb hs hv;dsimp only;refine nx hK (⟨Hb7.out,aC HP.out 6⟩) fun hS=> ?_;clear hK K hS;(try simp only [aF])
      refine ro 5 fun K hK=> ?_;go_simp;obtain ⟨b8,hab,hbz⟩:=nbz HB;have hbn:=nlt Hb7 hab;obtain ⟨Wa,hWn,hba,HN⟩:=nb1 (W:=_) (.cells zSy 61) hab;rw [hWn];clear hWn;replace HP:=nB hba HP;replace Hb7:=nB hba Hb7;replace HB:=nW hba HB;replace HY:=hU (HY.out.below hba);replace HZ:=hU (HZ.out.below hba);clear hba;try rw [hab]
      clear hab;refine nx hK (⟨Hb7.out,aC HP.out 6⟩) fun hS=> ?_;clear hK K hS;(try simp only [aF])
      exact hj b8 y2 Wa ⟨HP,Hb7,HB,HY,HZ,HN,hbn,HV⟩
    · go_simp;obtain ⟨b8,hab,hbz⟩:=nbz HB;have hbn:=nlt Hb7 hab;obtain ⟨Wa,hWn,hba,HN⟩:=nb1 (W:=_) (.cells zSy 61) hab;rw [hWn];clear hWn;replace HP:=nB hba HP;replace Hb7:=nB hba Hb7;replace HB:=nW hba HB;replace HY:=hU (HY.out.below hba);clear hba;try rw [hab]
      clear hab;refine nx hK (⟨Hb7.out,aC HP.out 6⟩) fun hS=> ?_;clear hK K hS;(try simp only [aF])
      refine ro 4 fun K hK=> ?_;refine want rfl ?_;go_simp;refine (HRU2.out _ HY.out (HT.out _ HB.out)).mono ?_;rintro er Wr ⟨y2,rfl,hs,hv,hb⟩;replace HP:=nB hb HP;replace Hb7:=nB hb Hb7;replace HB:=nW hb HB;replace HY:=hU (HY.out.below hb);replace HN:=nB hb HN;have HZ:=hU hs;have HV:=hU hv;clear hb hs hv;dsimp only;refine nx hK (⟨Hb7.out,aC HP.out 6⟩) fun hS=> ?_;clear hK K hS;(try simp only [aF])
      exact wpL_cast (hj b8 y2 Wr ⟨HP,Hb7,HB,HY,HZ,HN,hbn,HV⟩)
  · go_simp;obtain ⟨b8,hab,hbz⟩:=nbz HB;have hbn:=nlt Hb7 hab;obtain ⟨Wa,hWn,hba,HN⟩:=nb1 (W:=_) (.cells zSy 61) hab;rw [hWn];clear hWn;replace HP:=nB hba HP;replace Hb7:=nB hba Hb7;replace HB:=nW hba HB;replace HY:=hU (HY.out.below hba);clear hba;try rw [hab]
    clear hab;refine nx hK (⟨Hb7.out,aC HP.out 6⟩) fun hS=> ?_;clear hK K hS;(try simp only [aF])
    refine ro 3 fun K hK=> ?_;refine want rfl ?_;go_simp;refine (qYl more _).mono ?_;rintro er Wx ⟨rfl,rfl⟩;dsimp only;refine nx hK (⟨Hb7.out,aC HP.out 6⟩) fun hS=> ?_;clear hK K hS;(try simp only [aF])
    refine ro 4 fun K hK=> ?_;refine want rfl ?_;go_simp;refine (HRU2.out _ HY.out (HT.out _ HB.out)).mono ?_;rintro er Wr ⟨y2,rfl,hs,hv,hb⟩;replace HP:=nB hb HP;replace Hb7:=nB hb Hb7;replace HB:=nW hb HB;replace HY:=hU (HY.out.below hb);replace HN:=nB hb HN;have HZ:=hU hs;have HV:=hU hv;clear hb hs hv;dsimp only;refine nx hK (⟨Hb7.out,aC HP.out 6⟩) fun hS=> ?_;clear hK K hS;(try simp only [aF])
    exact wpL_cast (hj b8 y2 Wr ⟨HP,Hb7,HB,HY,HZ,HN,hbn,HV⟩)
 rintro b8 y2 Wn ⟨HP,Hb7,HB,HY,HZ,HN,hbn,HV⟩;obtain ⟨m2,hm2⟩:∃ m,jO k2 m1=m:=⟨_,rfl⟩
 rw [hm2] at HZ ⊢;have HMm2:=hU hm2;clear hm2;have HON:=hU (nT HZ.out);refine ro 6 fun K hK=> ?_;refine want rfl ?_;refine cL (v:=.agg (aS y2 m2)) (off:=0) (new:=aS y2 m2) rfl rfl rfl dZ.size HN.out rfl (show 0 + 11≤11 by decide) HON.out rfl ?_;intro Wn hp;have hB:=Below.put HB.out hp (by omega)
 have hpl:∀ W,Below w.heap.size w W→iF W y2.vp y2.vw y2.vc m2.p:=by
  rw [HV.out.1,HV.out.2.1,HV.out.2.2.1,← HMm2.out,qPm];exact HPM.out
 replace HZ:=hU (HZ.out.put HN.out hp (hpl _ hB) iX (by decide) (by decide) (by decide));replace HY:=hU (HY.out.put HN.out hp (HPM.out _ hB) iX (by decide) (by decide) (by decide));replace HPM:=hU hpl;replace HP:=pO hp HP;replace Hb7:=pO hp Hb7;have Hb8:=pA hp;replace HB:=hU hB;clear hB hp HON HN HV hpl;refine nt hK ?_;clear hK K;(try simp only [aF])
 refine aZ (by kernel_rfl) (NoPanic.normal ?_) _;rw [HMm2.out] at HG2 HGR;obtain ⟨i,rfl⟩:∃ i:Nat,part=i:=⟨part.toNat,by omega⟩
 obtain ⟨nse,hnse⟩:∃ k,k=m0.seats.length:=⟨_,rfl⟩
 rw [← hnse] at hx;have hq1:m1.p=m0.p:=by rw [← HMm1.out,qPm]
 have hq2:m2.p=m0.p:=by rw [← HMm2.out,qPm,hq1]
 have ht1:m1.seats.length=nse:=by rw [HG1.out.1.sl,hq1,hnse,HM0S.out]
 have ht2:m2.seats.length=nse:=by rw [HG2.out.1.sl,hq2,hnse,HM0S.out]
 have hn1:y1.ls.length=nse:=HY.out.len.1.trans ht1;have hn2:y2.ls.length=nse:=HZ.out.len.1.trans ht2;have hu1:m1.arr.length=nse:=HG1.out.1.al.trans (HG1.out.1.sl.symm.trans ht1);have hu2:m2.arr.length=nse:=HG2.out.1.al.trans (HG2.out.1.sl.symm.trans ht2);have hna1:y1.la.length=nse:=HY.out.len.2.trans hu1;have hna2:y2.la.length=nse:=HZ.out.len.2.trans hu2;obtain ⟨s2,hs2⟩:∃ s,m2.seats[i]? =some s:=⟨_,List.getElem?_eq_getElem (by omega)⟩
 obtain ⟨s1,hs1,hgr⟩:=HGR.out.se i s2 hs2;obtain ⟨ar2,har2⟩:∃ a,m2.arr[i]? =some a:=⟨_,List.getElem?_eq_getElem (by omega)⟩
 obtain ⟨ar1,har1,hgl⟩:=HGR.out.ar i ar2 har2;obtain ⟨⟨tq,htq⟩,⟨cq,hcq⟩,hnow,_⟩:=hgr;have hcz:s1.k.cons.size≤s2.k.cons.size:=by rw [hcq,ByteArray.size_append];omega
 have c3:s2.k.cons.extract 0 s1.k.cons.size=s1.k.cons:=by rw [hcq];exact cut_leftT _ _
 have hbeg:evBeg s1.k.trace s2.k.trace=true:=(evBeg_iff _ _).2 ⟨tq,htq⟩;have HBG:=hU hbeg;obtain ⟨Wo,hWo⟩:∃ Wo,Wo=Wn:=⟨_,rfl⟩
 have HW:Hid (Below Wo.heap.size Wo Wn):=hU (by rw [hWo];exact Below.refl _ _);rw [← hWo] at HY HZ;clear hWo HG1 HG2 HGR hq1 hq2 ht1 ht2 hu1 hu2 htq hcq hbeg hnse HM0S HM0 HS HPM HPL;obtain ⟨x1,hx1,hxs1,hl1⟩:=HY.out.seat hs1;have hel1:=HY.out.se.1;obtain ⟨a1,c1,hse1,_,_⟩:=hel1.shape;rw [hse1] at hel1;obtain ⟨g1,off1,hga1,hgl1,hc1⟩:=hel1.elem.2.2.2 i x1 hx1;subst hga1;rw [hn1] at hse1;have HSE1:=hU hse1
 have HCK1:Hid (∀ W,Below Wo.heap.size Wo W→∀ j u,(aJ x1.y s1.k)[j]? =some u→W.cell? ⟨g1,off1 + i * 19 + j,none⟩=some u):=hU (fun W hb j u hj=> hc1 W hb j u (by
  rw [show SB.cells x1=aY x1.y s1 by unfold SB.cells;rw [hxs1]];exact scells_at hj))
 have HL1:Hid (aH Wo x1.y x1.bs s1.k):=hU hl1
 obtain ⟨xa1,hxa1,hxal1⟩:∃ xa,y1.la[i]? =some xa∧xa.l=ar1:=by
  have h0:=har1;rw [← HY.out.al,List.getElem?_map] at h0;exact Option.map_eq_some_iff.1 h0
 have hSl1:=HY.out.ar.2 xa1 (List.mem_of_getElem? hxa1);rw [hxal1] at hSl1;obtain ⟨ea1,ec1,hev1,_,_⟩:=hSl1.shape;have hea1:=HY.out.ar.1;obtain ⟨q1,qc1,hqa1,_,_⟩:=hea1.shape;rw [hqa1] at hea1;obtain ⟨p1,offp1,hpa1,hpl1,hpc1⟩:=hea1.elem.2.2.2 i xa1 hxa1;subst hpa1;rw [hna1] at hqa1;have HQA1:=hU hqa1
 have HAC1:Hid (∀ W,Below Wo.heap.size Wo W→W.cell? ⟨p1,offp1 + i,none⟩=some (.slice ea1 ar1.length ec1)):=hU (fun W hb=> by
  have:=hpc1 W hb 0 _ rfl
  rw [Nat.mul_one,Nat.add_zero] at this;exact this.trans (congrArg some hev1))
 clear hx1 hxs1 hl1 hel1 hgl1 hc1 hse1 hxa1 hxal1 hSl1 hev1 hea1 hpl1 hpc1 hqa1;obtain ⟨x2,hx2,hxs2,hl2⟩:=HZ.out.seat hs2;have hel2:=HZ.out.se.1;obtain ⟨a2,c2,hse2,_,_⟩:=hel2.shape;rw [hse2] at hel2;obtain ⟨g2,off2,hga2,hgl2,hc2⟩:=hel2.elem.2.2.2 i x2 hx2;subst hga2;rw [hn2] at hse2;have HSE2:=hU hse2
 have HCK2:Hid (∀ W,Below Wo.heap.size Wo W→∀ j u,(aJ x2.y s2.k)[j]? =some u→W.cell? ⟨g2,off2 + i * 19 + j,none⟩=some u):=hU (fun W hb j u hj=> hc2 W hb j u (by
  rw [show SB.cells x2=aY x2.y s2 by unfold SB.cells;rw [hxs2]];exact scells_at hj))
 have HL2:Hid (aH Wo x2.y x2.bs s2.k):=hU hl2
 obtain ⟨xa2,hxa2,hxal2⟩:∃ xa,y2.la[i]? =some xa∧xa.l=ar2:=by
  have h0:=har2;rw [← HZ.out.al,List.getElem?_map] at h0;exact Option.map_eq_some_iff.1 h0
 have hSl2:=HZ.out.ar.2 xa2 (List.mem_of_getElem? hxa2);rw [hxal2] at hSl2;obtain ⟨ea2,ec2,hev2,_,_⟩:=hSl2.shape;have hea2:=HZ.out.ar.1;obtain ⟨q2,qc2,hqa2,_,_⟩:=hea2.shape;rw [hqa2] at hea2;obtain ⟨p2,offp2,hpa2,hpl2,hpc2⟩:=hea2.elem.2.2.2 i xa2 hxa2;subst hpa2;rw [hna2] at hqa2;have HQA2:=hU hqa2
 have HAC2:Hid (∀ W,Below Wo.heap.size Wo W→W.cell? ⟨p2,offp2 + i,none⟩=some (.slice ea2 ar2.length ec2)):=hU (fun W hb=> by
  have:=hpc2 W hb 0 _ rfl
  rw [Nat.mul_one,Nat.add_zero] at this;exact this.trans (congrArg some hev2))
 clear hx2 hxs2 hl2 hel2 hgl2 hc2 hse2 hxa2 hxal2 hSl2 hev2 hea2 hpl2 hpc2 hqa2;clear HY HZ hs1 hs2 har1 har2 hn1 hn2 hna1 hna2;have hi0:(0:Int)≤(i:Int):=by omega
 have hi2:i<nse:=by omega
 obtain ⟨b9,hab,hbz⟩:=nbz HB;have hwo:=HW.out.size;have hlo1:=nlt Hb7 hab;obtain ⟨Wa,hWa,hba,HZ1⟩:=nb1 (W:=Wn) (.cells zSe 41) hab;have f1:Wn.cell? ⟨b7,8,none⟩=some (.slice (some ⟨g1,off1,none⟩) nse c1):=by rw [← HSE1.out];exact aC Hb7.out 8
 have f2:Wn.cell? ⟨w.heap.size,7,none⟩=some (.int .i64 (i:Int)):=aC HP.out 7;have HLn:=hU (HL1.out.below HW.out)
 repeat' (first
  |(rw [hWa,hab];clear hWa)
  |(refine aE (t:=41) (v:=.agg (aJ x1.y s1.k)) rfl rfl rfl (cA cR rfl (HCK1.out Wn HW.out)) ?_)
  |(refine sN 41 (.agg (aJ x1.y s1.k)) 0 (aJ x1.y s1.k) cR.size HZ1.out (nS HLn.out) fun Wn hp=> ?_
    have hbb:=Below.put hba hp (Nat.le_of_eq hab);replace HP:=nB hbb HP;replace Hb7:=nB hbb Hb7;replace Hb8:=nB hbb Hb8;try (replace Hb9:=nB hbb Hb9)
    replace HW:=hU (HW.out.trans (hbb.mono HW.out.size));replace HB:=nW hbb HB;have Hb9:=pA hp;clear hbb hp hba HZ1 HLn f1 f2;refine Kp.out ?_)
  |go_values|go_skip|go_guarded|refine wg ?_|go_step|go_upon)
 refine ⟨?_⟩;clear hab hbz hwo;obtain ⟨b10,hab,hbz⟩:=nbz HB;have hwo:=HW.out.size;have hlo2:=nlt Hb8 hab;obtain ⟨Wa,hWa,hba,HZ2⟩:=nb1 (W:=Wn) (.cells zSe 41) hab;have f1:Wn.cell? ⟨b8,8,none⟩=some (.slice (some ⟨g2,off2,none⟩) nse c2):=by rw [← HSE2.out];exact aC Hb8.out 8
 have f2:Wn.cell? ⟨w.heap.size,7,none⟩=some (.int .i64 (i:Int)):=aC HP.out 7;have HLn:=hU (HL2.out.below HW.out)
 repeat' (first
  |(rw [hWa,hab];clear hWa)
  |(refine aE (t:=41) (v:=.agg (aJ x2.y s2.k)) rfl rfl rfl (cA cR rfl (HCK2.out Wn HW.out)) ?_)
  |(refine sN 41 (.agg (aJ x2.y s2.k)) 0 (aJ x2.y s2.k) cR.size HZ2.out (nS HLn.out) fun Wn hp=> ?_
    have hbb:=Below.put hba hp (Nat.le_of_eq hab);replace HP:=nB hbb HP;replace Hb7:=nB hbb Hb7;replace Hb8:=nB hbb Hb8;try (replace Hb9:=nB hbb Hb9)
    replace HW:=hU (HW.out.trans (hbb.mono HW.out.size));replace HB:=nW hbb HB;have Hb10:=pA hp;clear hbb hp hba HZ2 HLn f1 f2;refine Kp.out ?_)
  |go_values|go_skip|go_guarded|refine wg ?_|go_step|go_upon)
 refine ⟨?_⟩;clear hab hbz hwo;refine sg ?_;intros;have e1:decide ((s2.k.cons.size:Int)<(s1.k.cons.size:Int))=false:=by simp;omega
 have e1n:¬ s2.k.cons.size<s1.k.cons.size:=by omega
 have e3:decide ((ar1.length:Int)≤(ar2.length:Int))=true:=by simp;omega
 have e3n:ar1.length≤ar2.length:=hgl;have e4:decide (s1.k.now≤s2.k.now)=true:=by simp [hnow]
 have HE:=hU (And.intro e3 (And.intro e3n e4));clear e3 e3n e4 hgl hnow;refine wp_region_noPanic ?_;refine go0 (S:=fun W=> W.cell? ⟨b9,12,none⟩=some (.string s1.k.cons)∧W.cell? ⟨b10,12,none⟩=some (.string s2.k.cons)) [] (⟨aC Hb9.out 12,aC Hb10.out 12⟩) fun hS=> ?_;refine tp 0 ?_;(try simp only [aF])
 refine tl 1 ?_;(try simp only [aF])
 refine tp 2 ?_;(try simp only [aF])
 refine tp 3 ?_;(try simp only [aF])
 refine tl 4 ?_;(try simp only [aF])
 refine tp 5 ?_;(try simp only [aF])
 refine tp 6 ?_;(try simp only [aF])
 refine tp 7 ?_;(try simp only [aF])
 refine tp 8 ?_;(try simp only [aF])
 refine tl 9 ?_;(try simp only [aF])
 refine tp 10 ?_;(try simp only [aF])
 refine tl 11 ?_;(try simp only [aF])
 refine tp 12 ?_;(try simp only [aF])
 refine tp 13 ?_;(try simp only [aF])
 refine tp 14 ?_;(try simp only [aF])
 refine tl 15 ?_;(try simp only [aF])
 refine tp 16 ?_;(try simp only [aF])
 refine tp 17 ?_;(try simp only [aF])
 refine aZ (by kernel_rfl) (NoPanic.normal ?_) _;clear hS;obtain ⟨Wm,hWd⟩:=exW Wn.drew;have hbd:=dW hWd;replace HP:=nB hbd HP;replace Hb7:=nB hbd Hb7;replace Hb8:=nB hbd Hb8;replace Hb9:=nB hbd Hb9;replace Hb10:=nB hbd Hb10;replace HW:=hU (HW.out.trans (hbd.mono HW.out.size));replace HB:=nW hbd HB;rw [hWd];clear hWd hbd;obtain ⟨Wn,rfl⟩:∃ Wn,Wn=Wm:=⟨_,rfl⟩
 clear e1 e1n c3 hcz;obtain ⟨e3,e3n,e4⟩:=HE.out;refine sg ?_;intros;obtain ⟨ta,tc,hta,_,_⟩:=HL1.out.tr.shape;obtain ⟨tb,td,htb,_,_⟩:=HL2.out.tr.shape;have HRA:=hU HL1.out.tr.rd;have HRB:=hU HL2.out.tr.rd
 have HS:Hid (∀ W,Hid (W.heap[w.heap.size]? =some (.cells #[vp,.int .i64 P.fr,.slice aw P.ws.length cw,vc,.slice ai l.length ci,.int .i64 n,.int .i64 more,.int .i64 (i:Int)] 56 (0,0)))→Hid (W.heap[b7]? =some (.cells (aS y1 m1) 61 (0,0)))→Hid (W.heap[b8]? =some (.cells (aS y2 m2) 61 (0,0)))→Hid (W.heap[b9]? =some (.cells (aJ x1.y s1.k) 41 (0,0)))→Hid (W.heap[b10]? =some (.cells (aJ x2.y s2.k) 41 (0,0)))→Hid (Below Wo.heap.size Wo W)→
  W.cell? ⟨b9,13,none⟩=some (.slice ta s1.k.trace.length tc)∧W.cell? ⟨b10,13,none⟩=some (.slice tb s2.k.trace.length td)∧W.cell? ⟨b7,9,none⟩=some (.slice (some ⟨p1,offp1,none⟩) nse qc1)∧W.cell? ⟨b8,9,none⟩=some (.slice (some ⟨p2,offp2,none⟩) nse qc2)∧W.cell? ⟨w.heap.size,7,none⟩=some (.int .i64 (i:Int))∧W.cell? ⟨p1,offp1 + i,none⟩=some (.slice ea1 ar1.length ec1)∧W.cell? ⟨p2,offp2 + i,none⟩=some (.slice ea2 ar2.length ec2)∧W.cell? ⟨b9,7,none⟩=some (.int .u64 s1.k.now)∧W.cell? ⟨b10,7,none⟩=some (.int .u64 s2.k.now)):=hU (fun W h1 h2 h3 h4 h5 h6=> by
  rw [← hta,← htb,← HQA1.out,← HQA2.out];exact ⟨aC h4.out 13,aC h5.out 13,aC h2.out 9,aC h3.out 9,aC h1.out 7,HAC1.out W h6.out,HAC2.out W h6.out,aC h4.out 7,aC h5.out 7⟩)
 rw [hta] at HRA;rw [htb] at HRB;clear hta htb HCK1 HCK2 HSE1 HSE2 HQA1 HQA2 HAC1 HAC2 HL1 HL2;refine wp_region_noPanic ?_;refine go0 (S:=fun W=> W.cell? ⟨b9,13,none⟩=some (.slice ta s1.k.trace.length tc)∧W.cell? ⟨b10,13,none⟩=some (.slice tb s2.k.trace.length td)∧W.cell? ⟨b7,9,none⟩=some (.slice (some ⟨p1,offp1,none⟩) nse qc1)∧W.cell? ⟨b8,9,none⟩=some (.slice (some ⟨p2,offp2,none⟩) nse qc2)∧W.cell? ⟨w.heap.size,7,none⟩=some (.int .i64 (i:Int))∧W.cell? ⟨p1,offp1 + i,none⟩=some (.slice ea1 ar1.length ec1)∧W.cell? ⟨p2,offp2 + i,none⟩=some (.slice ea2 ar2.length ec2)∧W.cell? ⟨b9,7,none⟩=some (.int .u64 s1.k.now)∧W.cell? ⟨b10,7,none⟩=some (.int .u64 s2.k.now)) [] (HS.out _ HP Hb7 Hb8 Hb9 Hb10 (hU HW.out.drew)) fun hS=> ?_;obtain ⟨Wm,hWd⟩:=exW Wn.drew;have hbd:=dW hWd;replace HP:=nB hbd HP;replace Hb7:=nB hbd Hb7;replace Hb8:=nB hbd Hb8;replace Hb9:=nB hbd Hb9;replace Hb10:=nB hbd Hb10;replace HW:=hU (HW.out.trans (hbd.mono HW.out.size));replace HB:=nW hbd HB;rw [hWd] at hS ⊢;clear hWd hbd;refine tp 0 ?_;(try simp only [aF])
 refine tl 1 ?_;(try simp only [aF])
 refine tp 2 ?_;(try simp only [aF])
 refine tl 3 ?_;(try simp only [aF])
 clear hS;refine ro 4 fun K hK=> ?_;refine want rfl ?_;go_simp;refine (SBegins _ _ s1.k.trace s2.k.trace _ (HRA.out.below HW.out) (HRB.out.below HW.out)).mono ?_;rintro er Wn ⟨rfl,hb⟩;replace HP:=nB hb HP;replace Hb7:=nB hb Hb7;replace Hb8:=nB hb Hb8;replace Hb9:=nB hb Hb9;replace Hb10:=nB hb Hb10;replace HW:=hU (HW.out.trans (hb.mono HW.out.size));replace HB:=nW hb HB;clear hb;dsimp only;rw [HBG.out];refine nx hK (HS.out _ HP Hb7 Hb8 Hb9 Hb10 HW) fun hS=> ?_;clear hK K;(try simp only [aF])
 refine tp 5 ?_;(try simp only [aF])
 refine tp 6 ?_;(try simp only [aF])
 refine tl 7 ?_;(try simp only [aF])
 refine tp 8 ?_;(try simp only [aF])
 refine tl 9 ?_;(try simp only [aF])
 refine tp 10 ?_;(try simp only [aF])
 refine tl 11 ?_;(try simp only [aF])
 refine tp 12 ?_;(try simp only [aF])
 refine tp 13 ?_;(try simp only [aF])
 refine tl 14 ?_;(try simp only [aF])
 refine tp 15 ?_;(try simp only [aF])
 refine tl 16 ?_;(try simp only [aF])
 refine tp 17 ?_;(try simp only [aF])
 refine tl 18 ?_;(try simp only [aF])
 refine tp 19 ?_;(try simp only [aF])
 refine tp 20 ?_;(try simp only [aF])
 refine tp 21 ?_;(try simp only [aF])
 refine tp 22 ?_;(try simp only [aF])
 refine tp 23 ?_;(try simp only [aF])
 refine tl 24 ?_;(try simp only [aF])
 refine tp 25 ?_;(try simp only [aF])
 refine tl 26 ?_;(try simp only [aF])
 refine tp 27 ?_;(try simp only [aF])
 refine tp 28 ?_;(try simp only [aF])
 refine tp 29 ?_;(try simp only [aF])
 refine aZ (by kernel_rfl) (NoPanic.normal ?_) _;clear hS;refine sg ?_;intros;go_ret;exact cF rfl HB.out
end Hy
end Go.Proofs.YtfncknignkndiaaGreatDoor
namespace Go.Proofs.YtfncknignkndiaaGreatDoor.lawTopPrefix
open Go.ChangeShapes Go.WideShapes Go.ChangeAt Go.RowKit
theorem contract (H:Type) (enc:TypeId × Value→H) (W:World) (base:Nat) (args:Array Value) (ds gs:List (DataW H)) (before:List MemPlace)
 (hval:∀ (j:Nat) t v,Tryz.f4.params[j]? =some t→args[j]? =some v→Value.okWide Tryz.prog W .any base t v)
 (hW:DataW.Whole enc Tryz.prog Tryz.f4.params.toList Rows.topPrefixSpec.vars false W args.toList ds gs before) (hL:laidMetH Tryz.prog Rows.topPrefixRow.laid W)
 (hr:(DataW.weightsEach Tryz.prog (Tryz.f4.params.toList ++ (OpenSpec.ofChange Rows.topPrefixSpec).bare.plain.varTypes Tryz.prog) (ds ++ gs)).all (· ≤reachBytes)=true):
 Calls Tryz.prog 4 args W fun e W'=> ∃ v,e=.returned v∧Rows.topPrefixSpec.post enc Tryz.prog Tryz.f4 false true false false W args v W':=by
 have hW':=hW;obtain ⟨p,q,hA0,hV,rfl,hfz,hnd⟩:=hW;have hA:DataW.TrodAll enc Tryz.prog W 0 (fun _=> true) true Tryz.f4.params.toList args.toList ds p:=hA0;rw [Tryz.params4] at hA hval;obtain ⟨v0,d0,rfl,rfl,h0⟩:=trodAll_one hA;obtain ⟨rfl,rfl⟩:=trodVars_none hV;obtain ⟨vp,vw,vc,im,P,l,n,more,part,rfl,hpl,hfr,him,hwl,w0x,w1x,w2x⟩:=Hy.open_inTopPrefix (hval 0 56 v0 rfl rfl) h0;have hsl:=Hy.qYc (j:=0) hr (by kernel_rfl) rfl hwl;refine (Hy.LTopPrefix vp vw vc im P l n more part W hpl hfr him hsl (xAo hL)).mono fun e W' ⟨he,hb⟩=> ?_;subst he;exact ⟨_,rfl,law_post (tb:=4) hW' rfl rfl rfl rfl (by kernel_rfl) Tryz.underlying4 qYd (by rw [Tryz.params4];decide +kernel) hb⟩
abbrev qQt:Array Value:=#[.agg #[.slice none 0 0,.int .i64 0,.slice none 0 0,.slice none 0 0,.slice none 0 0,.int .i64 0,.int .i64 0,.int .i64 0]]
theorem laid_met (os:Os):laidMet Tryz.prog Rows.topPrefixRow.laid ((laidWorld os).forCall (fun _ _=> 0) ⟨#[],qQt,[]⟩).memory:=
 laidMet_of_run' 8 (by kernel_rfl) (by kernel_rfl)
theorem reads (os:Os) {H:Type} (enc:TypeId × Value→H):∃ places,DataW.whole enc Tryz.prog ((laidWorld os).forCall (fun _ _=> 0) ⟨#[],qQt,[]⟩).memory Tryz.f4.params.toList Rows.topPrefixSpec.vars false qQt.toList 8=some ([.agg [.agg [.nil,.lit (.int .i64 0),.nil,.nil],.nil,.lit (.int .i64 0),.lit (.int .i64 0),.lit (.int .i64 0)]],[],places):=
 ⟨[],by kernel_rfl⟩
theorem lifted (os:Os) (started:os.Started) (H:Type) (enc:TypeId × Value→H) (F:Stop.Interp):
 ReturnsInHanded {} Tryz.checked os 4 .any ((OpenSpec.ofChange Rows.topPrefixSpec).preRow enc Tryz.prog Tryz.f4 Rows.topPrefixRow.domain false Rows.topPrefixRow.laid) (((OpenSpec.ofChange Rows.topPrefixSpec).at F).post enc Tryz.prog Tryz.f4 false true false false):=by
 obtain ⟨places,hx⟩:=reads os enc
 refine returnsInHanded_of_row (C:=Tryz.checked) (s:=OpenSpec.ofChange Rows.topPrefixSpec) own started (by kernel_rfl) Tryz.func4
  (witness_row_at (enc:=enc) (C:=Tryz.checked) false (laidWorld os) qQt rfl (by kernel_rfl) (by kernel_rfl) (by kernel_rfl)
    (OpenSpec.preRow_of_cond 8 hx (by kernel_rfl) (fun k hk=> by cases hk) (by kernel_rfl) (laid_met os))) ?_
 intro W base args ds gs before hval hW _ hcond hr hL _ _;exact contract H enc W base args ds gs before hval hW hL hr
theorem j0:(Rows.topPrefixRow.inPlace==Tryz.pinned.checked.prog.inPlace 4)=true:=by kernel_rfl
theorem j1:(Rows.topPrefixRow.unfollowed==Tryz.pinned.checked.prog.unfollowed 4)=true:=by kernel_rfl
theorem j2:(Rows.topPrefixRow.recurses==Tryz.pinned.checked.prog.recurses 4)=true:=by kernel_rfl
theorem j3:(Rows.topPrefixRow.named==Tryz.pinned.checked.prog.varsNamed 4)=true:=by kernel_rfl
theorem facts:joinedFacts Tryz.pinned.checked.prog 4 Tryz.f4 (OpenSpec.ofChange Rows.topPrefixSpec).bare Rows.topPrefixRow=true:=by
 unfold joinedFacts;rw [j0,j1,j2,j3];kernel_rfl
theorem said:Rows.TopPrefixSaid:=
 OpenClaim.holds_of_cond 4 Tryz.f4 rfl rfl rfl rfl rfl rfl rfl ⟨rfl,rfl,rfl,rfl,rfl⟩ rfl rfl rfl rfl rfl (by kernel_rfl) Tryz.func4 facts
  (of_decide_eq_true (by kernel_rfl)) (by unfold Func.isWrapper;first|(rw [if_pos (by decide +kernel)];kernel_rfl)|(rw [if_neg (by decide +kernel)];exact ⟨rfl,rfl⟩))
  (fun os started H enc _ F=> by rw [OpenClaim.pre_eq_preRow];exact lifted os started H enc F)
theorem plain (f:FuncId) (fn:Func) (hf:Tryz.pinned.checked.prog.funcNamed "transom/transomtop.TopPrefix" =some f) (hfn:Tryz.pinned.checked.prog.funcs[f]? =some fn):
 false=Tryz.pinned.checked.prog.looks []∧∀ (j:Nat) t,fn.params[j]? =some t→Tryz.pinned.checked.prog.wantsStandIn t=false:=by
 obtain rfl:f=4:=Option.some.inj ((show Tryz.prog.funcNamed "transom/transomtop.TopPrefix" =some 4 by kernel_rfl).symm.trans hf)|>.symm
 obtain rfl:fn=Tryz.f4:=(Option.some.inj (Tryz.func4.symm.trans hfn)).symm;refine ⟨qYe,fun j t ht=> ?_⟩;have hm:=Array.mem_of_getElem? ht;rw [Tryz.params4] at hm;have hall:∀ t ∈ (#[56]:Array TypeId),Tryz.prog.wantsStandIn t=false:=by decide +kernel
 exact hall t hm
theorem card:Rows.TopPrefixCardSaid:=
 Claim7.holds_tied_plain_at .later [] _ _ _ _ said (fun _ h=> by cases h) (by kernel_rfl) (fun _ h=> by cases h) topPrefix_row_tie rfl ⟨rfl,rfl⟩ (by kernel_rfl) rfl plain (by kernel_rfl)
#print axioms card
end Go.Proofs.YtfncknignkndiaaGreatDoor.lawTopPrefix
