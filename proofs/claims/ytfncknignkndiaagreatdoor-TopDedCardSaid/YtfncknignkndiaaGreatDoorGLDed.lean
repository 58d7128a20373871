/- What the law is asked of, as it comes in. Conditions: as told. -/
import Derived.Test.YtfncknignkndiaaGreatDoorGTs2
import Derived.Test.YtfncknignkndiaaGreatDoorGSm
set_option linter.unusedVariables false
set_option maxRecDepth 100000
set_option maxHeartbeats 8000000
set_option linter.unusedSimpArgs false
namespace Go.Proofs.YtfncknignkndiaaGreatDoor
open Go.ChangeShapes Go.WideShapes Go.ChangeAt Go.RowKit Go.Joins Go.Deep KR Kn
namespace Hy
section
variable {H:Type} {enc:TypeId × Value→H} {w:World} {base b:Nat} {sp:Nat→Bool} {hd:Bool} {r:Reach}
theorem open_inTopDed {v:Value} {d:DataW H} {p:List MemPlace} (hv:Value.okWide Tryz.prog w r base 72 v) (h:DataW.Trod enc Tryz.prog w b sp hd 72 v d p):
 ∃ vp vw vc im P l n part,v=.agg #[vp,.int .i64 (Pl.fH.fr P),vw,vc,im,.int .i64 n,.int .i64 part]∧iF w vp vw vc P∧P.fr≤9223372036854775807∧tP w im l∧(∀ y ∈ l,y=[]∨∃ m,y.length≤m∧m * 16 ∈ d.weights Tryz.prog 72)∧(Lit.int .i64 n).wf=true∧(Lit.int .i64 part).wf=true:=by
 obtain ⟨cs,rfl,hsz⟩:=okWide_struct Tryz.underlying72 hv;rw [show Tryz.prog.cellsOf 72=7 by kernel_rfl] at hsz;obtain ⟨fuel,hf⟩:=h;obtain ⟨l0⟩:=cs;match l0,hsz with
 |[c0,c1,c2,c3,c4,c5,c6],_=>
  obtain ⟨xs,n,_,hx2,_,hlen,hge⟩:=DataW.trod_struct Tryz.underlying72 hf;have hx:xs.length=4:=hlen;have g0:DataW.trod enc Tryz.prog w b sp hd n 53 (([c0,c1,c2,c3,c4,c5,c6].drop 0).take (Tryz.prog.cellsOf 53))=xs[0]? :=hge 0 _ rfl;rw [List.getElem?_eq_getElem (by omega),show Tryz.prog.cellsOf 53=4 by kernel_rfl] at g0;have e0:DataW.trod enc Tryz.prog w b sp hd n 53 [c0,c1,c2,c3]=some (xs[0]'(by omega)):=g0;have g1:DataW.trod enc Tryz.prog w b sp hd n 54 (([c0,c1,c2,c3,c4,c5,c6].drop 4).take (Tryz.prog.cellsOf 54))=xs[1]? :=hge 1 _ rfl;rw [List.getElem?_eq_getElem (by omega),show Tryz.prog.cellsOf 54=1 by kernel_rfl] at g1;have e1:DataW.trod enc Tryz.prog w b sp hd n 54 [c4]=some (xs[1]'(by omega)):=g1;have g2:DataW.trod enc Tryz.prog w b sp hd n 3 (([c0,c1,c2,c3,c4,c5,c6].drop 5).take (Tryz.prog.cellsOf 3))=xs[2]? :=hge 2 _ rfl;rw [List.getElem?_eq_getElem (by omega),show Tryz.prog.cellsOf 3=1 by kernel_rfl] at g2;have e2:DataW.trod enc Tryz.prog w b sp hd n 3 [c5]=some (xs[2]'(by omega)):=g2;have g3:DataW.trod enc Tryz.prog w b sp hd n 3 (([c0,c1,c2,c3,c4,c5,c6].drop 6).take (Tryz.prog.cellsOf 3))=xs[3]? :=hge 3 _ rfl;rw [List.getElem?_eq_getElem (by omega),show Tryz.prog.cellsOf 3=1 by kernel_rfl] at g3;have e3:DataW.trod enc Tryz.prog w b sp hd n 3 [c6]=some (xs[3]'(by omega)):=g3;obtain ⟨P,rfl,hpl,hfr⟩:=qIh e0;obtain ⟨l,him,hwl⟩:=qEl e1;obtain ⟨n,rfl,w0⟩:=fI e2;obtain ⟨part,rfl,w1⟩:=fI e3;obtain rfl:=(Prod.mk.inj hx2).1;refine ⟨_,_,_,_,P,l,_,_,rfl,hpl,hfr,him,fun y hy=> (hwl y hy).imp id (fun ⟨m,h1,h2⟩=> ⟨m,h1,?_⟩),w0,w1⟩;unfold DataW.weights;rw [Tryz.underlying72];dsimp only;refine DataW.weights_mem_each (j:=1) (t:=54) (d:=xs[1].1) (by rfl) ?_ _ h2;rw [List.getElem?_map,List.getElem?_eq_getElem (by omega)];rfl
end
end Hy
end Go.Proofs.YtfncknignkndiaaGreatDoor
namespace Go.Proofs.YtfncknignkndiaaGreatDoor
open Go.RowKit KR Kn RegT3
namespace Hy
theorem scells_at {y:Lay} {s:dU} {j:Nat} {u:Value} (h:(aJ y s.k)[j]? =some u):(aY y s)[j]? =some u:=by
 have hj:j<17:=(Array.getElem?_eq_some_iff.1 h).1;unfold aJ at h;unfold aY;rcases j with _|_|_|_|_|_|_|_|_|_|_|_|_|_|_|_|_|j <;> first|exact h|(exfalso;omega)
theorem wpL_cast {P:Program} {md:Region.Mode} {ops:Array Oper} {Q:Exit→Act→World→Prop} {S:World→Prop} {st:List Nat} {f f':Nat} {l l':Array Bool} {a:Act} {w:World} (h:wpL P md ops Q S st f l a w) (hl:l=l':=by kernel_rfl) (hf:f=f':=by kernel_rfl):wpL P md ops Q S st f' l' a w:=by
 subst hl hf;exact h
theorem plan_cut (vp vw vc im:Value) (fr n p:Int):(#[vp,.int .i64 fr,vw,vc,im,.int .i64 n,.int .i64 p]:Array Value).extract 0 (0 + 4)=eV vp vw vc fr:=by
 unfold eV;simp
theorem join6 {A B C D E F':Type} {G:Prop} {T F:A→B→C→D→E→F'→Prop} (h1:∀ a b c d e f,F a b c d e f→T a b c d e f) (h2:(∀ a b c d e f,F a b c d e f→T a b c d e f)→G):G:=h2 h1
theorem hcellv {W:World} {b:Nat} {cs:Array Value} {T:TypeId} (h:W.heap[b]? =some (.cells cs T (0,0))) {j:Nat} {v:Value} (hv:cs[j]? =some v):W.cell? ⟨b,j,none⟩=some v:=by
 simp [World.cell?,h,hv]
theorem LTopDed (vp vw vc im:Value) (P:Pl.fH) (l:List (List ByteArray)) (n part:Int) (w:World) (h:iF w vp vw vc P) (hfr:P.fr≤9223372036854775807) (him:tP w im l) (hl:∀ r ∈ l,r.length≤8796093022207) (hT:Tab w):
 Calls Tryz.prog 5 #[.agg #[vp,.int .i64 P.fr,vw,vc,im,.int .i64 n,.int .i64 part]] w (aN (.bool true) w):=by
 obtain ⟨aw,cw,rfl⟩:=h.wins;obtain ⟨ai,ci,rfl,_⟩:=id him;obtain ⟨Wn,hW0,hb0,HP⟩:=nb1 (W:=w) (.cells #[vp,.int .i64 P.fr,.slice aw P.ws.length cw,vc,.slice ai l.length ci,.int .i64 n,.int .i64 part] 72) rfl;have HB:=hU hb0;have HT:=hU (fun W (h:Below w.heap.size w W)=> hT.below h);have HPL:=hU (fun W (hb:Below w.heap.size w W)=> h.below hb);have HIM:=hU (fun W (hb:Below w.heap.size w W)=> him.below hb);have HBE:=hU (fun W (hb:Below w.heap.size w W)=> qNg vp (.slice aw P.ws.length cw) vc (.slice ai l.length ci) P l W (h.below hb) hfr (him.below hb) hl);clear hb0 h him hl hT;go_in;repeat' (first|(rw [hW0];clear hW0)|go_values|go_skip|go_guarded|refine wg ?_|go_step|go_upon)
 refine (qVa _ (HT.out _ HB.out)).mono ?_;rintro er Wn ⟨rfl,hb⟩;replace HP:=nB hb HP;replace HB:=nW hb HB;clear hb;dsimp only;have p4:Wn.cell? ⟨w.heap.size,4,none⟩=some (.slice ai l.length ci):=aC HP.out 4;refine sg ?_;intros;refine (HFew (.slice ai l.length ci) l _ (HIM.out _ HB.out)).mono ?_;rintro er Wx ⟨rfl,rfl⟩;obtain ⟨sm,hsm⟩:∃ sm,sW l=sm:=⟨_,rfl⟩
 rw [hsm];dsimp only;repeat' (first|(refine aE (t:=53) (v:=.agg (eV vp (.slice aw P.ws.length cw) vc P.fr)) rfl rfl rfl (cB zO HP.out (by unfold eV;simp) rfl) ?_)|go_values|go_skip|go_guarded|refine wg ?_|go_step|go_upon)
 clear p4;refine (HBE.out _ HB.out).mono ?_;rintro er Wn hg;obtain ⟨c,ck,rfl,hcs,hon,hb,hgo⟩:=hg.cells;clear hg HBE;replace HP:=nB hb HP;replace HB:=nW hb HB;have HCS:=hU hcs;have HON:=hU hon;have hb9:Below Wn.heap.size Wn Wn:=Below.refl _ _;have HR:=hU hb9;clear hb hcs hon hb9;obtain ⟨b5,hab5,hbz5⟩:=nbz HB;have hb5:=nlt HP hab5;obtain ⟨Wo,hWo⟩:∃ Wo,Wo=Wn:=⟨_,rfl⟩
 rw [← hWo] at hgo;replace HR:Hid (Below Wo.heap.size Wo Wn):=hU (by rw [hWo];exact Below.refl _ _);clear hWo;obtain ⟨W5,hW5,hba5,HZ5⟩:=nb1 (W:=Wn) (.cells zSy 61) hab5
 have hcase:sm=false∨sm=true∧ck ≠ 0∨sm=true∧ck=0∧part<0∨sm=true∧ck=0∧¬ part<0:=by
  cases sm
  · exact .inl rfl
  · by_cases h1:ck=0
    · by_cases h2:part<0
      · exact .inr (.inr (.inl ⟨rfl,h1,h2⟩))
      · exact .inr (.inr (.inr ⟨rfl,h1,h2⟩))
    · exact .inr (.inl ⟨rfl,h1⟩)
 dsimp only;have HGO:=hU hgo;clear hgo;rcases hcase with rfl|⟨rfl,hck⟩|⟨rfl,rfl,hn⟩|⟨rfl,rfl,hn⟩
 case' inr.inl=> have e1:(ck !=0)=true:=by simpa using hck
 case' inr.inr.inl=> have e2:decide (part<0)=true:=by simpa using hn
 case' inr.inr.inr=>
  have e2:decide (part<0)=false:=by simpa using hn
  obtain ⟨hck,y,hyc,hs,hv⟩:=HGO.out rfl;obtain ⟨a8,cp8,hse8,_,_⟩:=hs.se.1.shape;have hl1:y.ls.length=(gE P l).seats.length:=hs.len.1;rw [hl1] at hse8;obtain ⟨m0,hm0⟩:∃ m0,m0=gE P l:=⟨_,rfl⟩
  rw [← hm0] at hyc hs hse8;have HE8:Hid (c[8]? =some (.slice a8 m0.seats.length cp8)):=hU (by rw [hyc,← hse8];rfl);obtain ⟨a9,cp9,hse9,_,_⟩:=hs.ar.1.shape;have hl9:y.la.length=m0.seats.length:=by rw [hs.len.2,hm0];exact List.length_replicate.trans (by show _=(List.map _ _).length;rw [List.length_map,List.length_range])
  rw [hl9] at hse9;have HE9:Hid (c[9]? =some (.slice a9 m0.seats.length cp9)):=hU (by rw [hyc,← hse9];rfl);have HYC:=hU hyc;have HS:=hU hs;have HM0:=hU hm0;clear hyc hs hse8 hse9 hl1 hl9 HGO hm0;rcases Decidable.em (part<(m0.seats.length:Int)) with hx|hx
 case' inr.inr.inr.inl=> have e3:decide ((m0.seats.length:Int)≤part)=false:=by simp;omega
 case' inr.inr.inr.inr=> have e3:decide ((m0.seats.length:Int)≤part)=true:=by simp;omega
 all_goals repeat' (first
  |go_skip
  |(rw [hW5,hab5];clear hW5)
  |(refine aK (t:=61) (v:=.agg c) (off:=0) (new:=c) rfl rfl rfl rfl dZ.size HZ5.out HCS.out (show 0 + 11≤11 by decide) HON.out (eD (by rw [show (Value.agg c).cells.size=11 from HCS.out];rfl)) ?_;intro Wn hp
    have hbb:=Below.put hba5 hp (Nat.le_of_eq hab5);replace HP:=nB hbb HP;replace HR:=hU (HR.out.trans (hbb.mono HR.out.size));replace HB:=nW hbb HB;have HQ:=pA hp;have p6:Wn.cell? ⟨w.heap.size,6,none⟩=some (.int .i64 part):=aC HP.out 6;have HC8:=hU (fun (v:Value) (h:c[8]? =some v)=> (show Wn.cell? ⟨b5,8,none⟩=some v from hcellv HQ.out h));have HC9:=hU (fun (v:Value) (h:c[9]? =some v)=> (show Wn.cell? ⟨b5,9,none⟩=some v from hcellv HQ.out h));try (have c8:=HC8.out _ HE8.out)
    try (have c9:=HC9.out _ HE9.out)
    clear HC8 HC9;clear hbb hp hba5 HZ5 HON HCS)
  |go_values|go_skip|go_guarded|refine wg ?_|go_step|go_upon)
 · go_ret;exact cF rfl HB.out
 rotate_left 1
 · go_ret;exact cF rfl HB.out
 · go_ret;exact cF rfl HB.out
 · go_ret;exact cF rfl HB.out
 clear e2 e3;obtain ⟨hgd,hwd⟩:=qN hck (qOx hsm);rw [← HM0.out] at hgd hwd;have HY:=hU (HS.out.below HR.out);obtain ⟨k1,hk1⟩:∃ k,k=(qGy n).toNat:=⟨_,rfl⟩
 have hk1m:k1≤600:=by have:=xAf n;omega
 have HRU:=hU (fun W hy ht=> HRun y m0 0 k1 (qGy n) W hy hgd hwd hk1 (by omega) ht);have HG1:=hU (hgd.run hwd (k:=k1) (by omega));obtain rfl:=HYC.out;have HV:=hU hv;have hm0p:m0.seats.length=m0.p.ps.length:=hgd.sl;have hdd:DedM (guestOf P l) m0:=by rw [HM0.out];exact DedM.begin_ hck (qOx hsm)
 have hgo:=fun i=> guest_ok hck (qOx hsm) i;have hxp:∀ i,(guestOf P l i).x=partOf (m0.p.ps.getD i []):=fun i=> by rw [HM0.out];rfl
 have HDD:=hU (DedM.run hgo (k:=k1) hdd hgd hwd hxp (by omega));have HGK:=hU hgo;have HP0:Hid ((jO k1 m0).p=P):=hU (by rw [qPm,HM0.out];rfl);have HM0S:=hU hm0p;clear hm0p hgd hwd hv hck hsm HR hk1 hdd hgo hxp;refine wp_region_noPanic ?_;refine go0 (S:=fun W=> W.heap[b5]? =some (.cells (aS y m0) 61 (0,0))∧W.cell? ⟨w.heap.size,5,none⟩=some (.int .i64 n)) [5] ⟨HQ.out,aC HP.out 5⟩ fun hS=> ?_;obtain ⟨Wd,hWd⟩:=exW Wn.drew;have hbd:=dW hWd;replace HP:=nB hbd HP;replace HQ:=nB hbd HQ;replace HY:=hU (HY.out.below hbd);replace HB:=nW hbd HB;rw [hWd] at hS ⊢;clear hWd hbd;refine tv 0 (.agg (aS y m0)) (fun W hSW=> aR rfl rfl (aD dZ hSW.1 rfl)) ?_;(try simp only [aF])
 refine tp 1 ?_;(try simp only [aF])
 refine tl 2 ?_;(try simp only [aF])
 refine ro 3 fun K hK=> ?_;refine want rfl ?_;go_simp;refine (qYl n _).mono ?_;rintro er Wx ⟨rfl,rfl⟩;dsimp only;refine nx hK hS fun hS=> ?_;clear hK K hS;(try simp only [aF])
 refine ro 4 fun K hK=> ?_;refine want rfl ?_;go_simp;refine (HRU.out _ HY.out (HT.out _ HB.out)).mono ?_;rintro er Wn ⟨y1,rfl,hs,hv,hb⟩;obtain ⟨m1,hm1⟩:∃ m1,jO k1 m0=m1:=⟨_,rfl⟩
 rw [hm1] at HG1 HP0 HDD hs ⊢;replace HP:=nB hb HP;replace HQ:=nB hb HQ;replace HB:=nW hb HB;replace HY:=hU hs;have HON:=hU (nT hs);have HV1:Hid (y1.vp=vp∧y1.vw=.slice aw P.ws.length cw∧y1.vc=vc):=hU ⟨hv.1.trans HV.out.1,hv.2.1.trans HV.out.2.1,hv.2.2.1.trans HV.out.2.2.1⟩;have HPM:Hid (∀ W,Below w.heap.size w W→iF W y1.vp y1.vw y1.vc m1.p):=hU (by rw [HV1.out.1,HV1.out.2.1,HV1.out.2.2,HP0.out];exact HPL.out);have HNS:Hid (m1.seats.length=m0.seats.length):=hU (by rw [HG1.out.1.sl,HM0S.out,HP0.out,HM0.out];rfl);clear hb hs hv HRU hm1 HV;dsimp only;refine nx hK ⟨HQ.out,aC HP.out 5⟩ fun hS=> ?_;clear hK K hS;(try simp only [aF])
 refine ro 5 fun K hK=> ?_;refine want rfl ?_;refine cL (v:=.agg (aS y1 m1)) (off:=0) (new:=aS y1 m1) rfl rfl rfl dZ.size HQ.out rfl (show 0 + 11≤11 by decide) HON.out rfl ?_;intro Wn hp;have hB:=Below.put HB.out hp (by omega);replace HY:=hU (HY.out.put HQ.out hp (HPM.out _ hB) iX (by decide) (by decide) (by decide));replace HP:=pO hp HP;replace HQ:=pA hp;replace HB:=hU hB;clear hB hp HON;refine nt hK ?_;clear hK K;(try simp only [aF])
 refine aZ (by kernel_rfl) (NoPanic.normal ?_) _;obtain ⟨i,rfl⟩:∃ i:Nat,part=i:=⟨part.toNat,by omega⟩
 obtain ⟨nse,hnse⟩:∃ k,k=m0.seats.length:=⟨_,rfl⟩
 rw [← hnse] at hx;have hi2:i<nse:=by omega
 have hi0:(0:Int)≤(i:Int):=by omega
 have hi3:(i:Int)<(nse:Int):=by omega
 have ht1:m1.seats.length=nse:=by rw [HNS.out,hnse]
 have hn1:y1.ls.length=nse:=HY.out.len.1.trans ht1;have hu1:m1.arr.length=nse:=HG1.out.1.al.trans (HG1.out.1.sl.symm.trans ht1);have hna1:y1.la.length=nse:=HY.out.len.2.trans hu1;have hps:P.ps.length=nse:=by rw [← ht1,HG1.out.1.sl,HP0.out]
 obtain ⟨s1,hs1⟩:∃ s,m1.seats[i]? =some s:=⟨_,List.getElem?_eq_getElem (by omega)⟩
 obtain ⟨ar1,har1⟩:∃ a,m1.arr[i]? =some a:=⟨_,List.getElem?_eq_getElem (by omega)⟩
 obtain ⟨hds,hsm1⟩:=HDD.out i s1 ar1 hs1 har1;obtain ⟨nn,hnn,hdk,hdb,hdt⟩:=hds.same;have hnn9:nn≤9000:=by have:=(HG1.out.1.sg s1 (List.mem_of_getElem? hs1)).nw;omega
 have har9:ar1.length≤9000:=by have:=HG1.out.1.ar ar1 (List.mem_of_getElem? har1);omega
 have hck1:Pl.check P=0:=by rw [← HP0.out];exact HG1.out.1.ck
 have hcl:(fD P).length≤1000000:=by
  obtain ⟨_,_,_,_,h5,_⟩:=Pl.cQ hck1;unfold fD;rw [List.length_map];omega
 have hcv:IntKind.i64.wrap (nn:Int)=nn:=by rw [IntKind.wrap_i64];omega
 have hnt:((nn:Int)).toNat=nn:=Int.toNat_natCast nn;obtain ⟨dd,hdd⟩:∃ dd,drun (guestOf P l i) ar1 nn=dd:=⟨_,rfl⟩
 rw [hdd] at hdk hdb hdt;have HDD1:=hU hdd;have hpb:(parts P)[i]? =some (partOf (P.ps.getD i [])):=qGl (by omega);have hpll:(parts P).length=nse:=by unfold parts;rw [List.length_map];exact hps
 obtain ⟨Wo,hWo⟩:∃ Wo,Wo=Wn:=⟨_,rfl⟩
 have HW:Hid (Below Wo.heap.size Wo Wn):=hU (by rw [hWo];exact Below.refl _ _);rw [← hWo] at HY;have hpa:=(HPL.out Wo (by rw [hWo];exact HB.out)).pa;clear hWo;obtain ⟨x1,hx1,hxs1,hl1⟩:=HY.out.seat hs1;have hel1:=HY.out.se.1;obtain ⟨a1,c1,hse1,_,_⟩:=hel1.shape;rw [hse1] at hel1;obtain ⟨g1,off1,hga1,hgl1,hc1⟩:=hel1.elem.2.2.2 i x1 hx1;subst hga1;rw [hn1] at hse1;have HSE1:=hU hse1
 have HCK1:Hid (∀ W,Below Wo.heap.size Wo W→∀ j u,(aY x1.y s1)[j]? =some u→W.cell? ⟨g1,off1 + i * 19 + j,none⟩=some u):=hU (fun W hb j u hj=> hc1 W hb j u (by
  rw [show SB.cells x1=aY x1.y s1 by unfold SB.cells;rw [hxs1]];exact hj))
 have HL1:Hid (aH Wo x1.y x1.bs s1.k):=hU hl1
 obtain ⟨xa1,hxa1,hxal1⟩:∃ xa,y1.la[i]? =some xa∧xa.l=ar1:=by
  have h0:=har1;rw [← HY.out.al,List.getElem?_map] at h0;exact Option.map_eq_some_iff.1 h0
 have hSl1:=HY.out.ar.2 xa1 (List.mem_of_getElem? hxa1);rw [hxal1] at hSl1;obtain ⟨ea1,ec1,hev1,_,_⟩:=hSl1.shape;have hea1:=HY.out.ar.1;obtain ⟨q1,qc1,hqa1,_,_⟩:=hea1.shape;rw [hqa1] at hea1;obtain ⟨p1,offp1,hpa1,hpl1,hpc1⟩:=hea1.elem.2.2.2 i xa1 hxa1;subst hpa1;rw [hna1] at hqa1;have HQA1:=hU hqa1
 have HAC1:Hid (∀ W,Below Wo.heap.size Wo W→W.cell? ⟨p1,offp1 + i,none⟩=some (.slice ea1 ar1.length ec1)):=hU (fun W hb=> by
  have:=hpc1 W hb 0 _ rfl
  rw [Nat.mul_one,Nat.add_zero] at this;exact this.trans (congrArg some hev1))
 rw [hev1] at hSl1;have HRD:Hid (Rd 3 jZ.cells Wo (.slice ea1 ar1.length ec1) ar1):=hU hSl1.rd;have HRN:=hU (fun (vi vo vn:Value) W hi ho hn hl=> SRun17 (guestOf P l i) vi vo vn (.slice ea1 ar1.length ec1) ar1 (nn:Int) W hi ho hn hl (HGK.out i) hsm1 (by omega));obtain ⟨pa,cpp,hvp,_,_⟩:=hpa.shape;rw [hvp] at hpa;obtain ⟨gp,offp,hpg,hpgl,hpgc⟩:=hpa.elem.2.2.2 i _ hpb;subst hpg;rw [hpll] at hvp;subst hvp;have HPC:Hid (∀ W,Below Wo.heap.size Wo W→∀ j u,(Part.cells (partOf (P.ps.getD i [])))[j]? =some u→W.cell? ⟨gp,offp + i * 4 + j,none⟩=some u):=hU hpgc;have HTE:=hU hdt;have HDK:=hU hdk;have HDB:=hU hdb;have HNN:=hU hnn;have HCL:=hU hcl;clear hx1 hxs1 hl1 hel1 hgl1 hc1 hse1 hxa1 hxal1 hSl1 hev1 hea1 hpl1 hpc1 hqa1 hpa hpgl hpgc hpb hpll hdt hdk hdb hnn hcl hdd hds hsm1 hs1 har1 hn1 hna1 ht1 hu1 hps hck1 hnse HDD HGK HG1 HNS HP0 HPM HM0S HM0 HV1;obtain ⟨b8,hab,hbz⟩:=nbz HB;have hwo:=HW.out.size;have hlo:=nlt HQ hab;obtain ⟨Wa,hWa,hba,HZ1⟩:=nb1 (W:=Wn) (.cells zKe 67) hab;have f1:Wn.cell? ⟨b5,8,none⟩=some (.slice (some ⟨g1,off1,none⟩) nse c1):=by rw [← HSE1.out];exact aC HQ.out 8
 have f2:Wn.cell? ⟨w.heap.size,6,none⟩=some (.int .i64 (i:Int)):=aC HP.out 6;have HLn:=hU (HL1.out.below HW.out)
 repeat' (first
  |(rw [hWa,hab];clear hWa)
  |(refine aE (t:=67) (v:=.agg (aY x1.y s1)) rfl rfl rfl (cA dN rfl (HCK1.out Wn HW.out)) ?_)
  |(refine sN 67 (.agg (aY x1.y s1)) 0 (aY x1.y s1) dN.size HZ1.out (sP HLn.out) fun Wn hp=> ?_
    have hbb:=Below.put hba hp (Nat.le_of_eq hab);replace HP:=nB hbb HP;replace HQ:=nB hbb HQ;replace HW:=hU (HW.out.trans (hbb.mono HW.out.size));replace HB:=nW hbb HB;have HA:=pA hp;clear hbb hp hba HZ1 HLn f1 f2;refine Kp.out ?_)
  |go_values|go_skip|go_guarded|refine wg ?_|go_step|go_upon)
 refine ⟨?_⟩;clear hab hbz hwo HCK1 HSE1;refine sg ?_;intros;have HSF:Hid (∀ W,Hid (W.heap[w.heap.size]? =some (.cells #[.slice (some ⟨gp,offp,none⟩) nse cpp,.int .i64 P.fr,.slice aw P.ws.length cw,vc,.slice ai l.length ci,.int .i64 n,.int .i64 (i:Int)] 72 (0,0)))→Hid (W.heap[b5]? =some (.cells (aS y1 m1) 61 (0,0)))→Hid (W.heap[b8]? =some (.cells (aY x1.y s1) 67 (0,0)))→Hid (Below Wo.heap.size Wo W)→W.heap[w.heap.size]? =some (.cells #[.slice (some ⟨gp,offp,none⟩) nse cpp,.int .i64 P.fr,.slice aw P.ws.length cw,vc,.slice ai l.length ci,.int .i64 n,.int .i64 (i:Int)] 72 (0,0))∧(∀ j u,(Part.cells (partOf (P.ps.getD i [])))[j]? =some u→W.cell? ⟨gp,offp + i * 4 + j,none⟩=some u)∧W.cell? ⟨w.heap.size,0,none⟩=some (.slice (some ⟨gp,offp,none⟩) nse cpp)∧W.cell? ⟨w.heap.size,4,none⟩=some (.slice ai l.length ci)∧W.cell? ⟨w.heap.size,6,none⟩=some (.int .i64 (i:Int))∧W.cell? ⟨b5,9,none⟩=some (.slice (some ⟨p1,offp1,none⟩) nse qc1)∧W.cell? ⟨p1,offp1 + i,none⟩=some (.slice ea1 ar1.length ec1)∧W.cell? ⟨b8,7,none⟩=some (.int .u64 (nn:Int))):=hU (fun W h1 h2 h3 h4=> ⟨h1.out,HPC.out W h4.out,aC h1.out 0,aC h1.out 4,aC h1.out 6,(aC h2.out 9).trans (congrArg some HQA1.out),HAC1.out W h4.out,by rw [← HNN.out];exact aC h3.out 7⟩);refine wp_region_noPanic ?_;refine go0 (S:=fun W=> W.heap[w.heap.size]? =some (.cells #[.slice (some ⟨gp,offp,none⟩) nse cpp,.int .i64 P.fr,.slice aw P.ws.length cw,vc,.slice ai l.length ci,.int .i64 n,.int .i64 (i:Int)] 72 (0,0))∧(∀ j u,(Part.cells (partOf (P.ps.getD i [])))[j]? =some u→W.cell? ⟨gp,offp + i * 4 + j,none⟩=some u)∧W.cell? ⟨w.heap.size,0,none⟩=some (.slice (some ⟨gp,offp,none⟩) nse cpp)∧W.cell? ⟨w.heap.size,4,none⟩=some (.slice ai l.length ci)∧W.cell? ⟨w.heap.size,6,none⟩=some (.int .i64 (i:Int))∧W.cell? ⟨b5,9,none⟩=some (.slice (some ⟨p1,offp1,none⟩) nse qc1)∧W.cell? ⟨p1,offp1 + i,none⟩=some (.slice ea1 ar1.length ec1)∧W.cell? ⟨b8,7,none⟩=some (.int .u64 (nn:Int))) [34] (HSF.out _ HP HQ HA (hU HW.out.drew)) fun hS=> ?_;obtain ⟨Wm,hWd⟩:=exW Wn.drew;have hbd:=dW hWd;replace HP:=nB hbd HP;replace HQ:=nB hbd HQ;replace HA:=nB hbd HA;replace HW:=hU (HW.out.trans (hbd.mono HW.out.size));replace HB:=nW hbd HB;rw [hWd] at hS ⊢;clear hWd hbd;refine tp 0 ?_;(try simp only [aF])
 refine tp 1 ?_;(try simp only [aF])
 refine tl 2 ?_;(try simp only [aF])
 refine tp 3 ?_;(try simp only [aF])
 refine tl 4 ?_;(try simp only [aF])
 refine tp 5 ?_;(try simp only [aF])
 refine tv 6 (.agg (Part.cells (partOf (P.ps.getD i [])))) (fun W hSW=> aR rfl rfl (cA nO rfl hSW.2.1)) ?_;(try simp only [aF])
 refine tp 7 ?_;(try simp only [aF])
 refine tl 8 ?_;(try simp only [aF])
 refine tp 9 ?_;(try simp only [aF])
 refine tl 10 ?_;(try simp only [aF])
 refine tp 12 ?_;(try simp only [aF])
 refine tv 13 (.agg (eV (.slice (some ⟨gp,offp,none⟩) nse cpp) (.slice aw P.ws.length cw) vc P.fr)) (fun W hSW=> aR rfl rfl (cB zO hSW.1 (plan_cut _ _ _ _ _ _ _) rfl)) ?_;(try simp only [aF])
 refine tp 14 ?_;(try simp only [aF])
 refine tl 15 ?_;(try simp only [aF])
 refine tp 17 ?_;(try simp only [aF])
 refine tv 18 (.agg (eV (.slice (some ⟨gp,offp,none⟩) nse cpp) (.slice aw P.ws.length cw) vc P.fr)) (fun W hSW=> aR rfl rfl (cB zO hSW.1 (plan_cut _ _ _ _ _ _ _) rfl)) ?_;(try simp only [aF])
 refine tp 19 ?_;(try simp only [aF])
 refine tl 20 ?_;(try simp only [aF])
 refine tp 22 ?_;(try simp only [aF])
 refine tl 23 ?_;(try simp only [aF])
 refine tp 24 ?_;(try simp only [aF])
 refine tl 25 ?_;(try simp only [aF])
 refine tp 26 ?_;(try simp only [aF])
 refine tl 27 ?_;(try simp only [aF])
 refine tp 28 ?_;(try simp only [aF])
 refine tp 29 ?_;(try simp only [aF])
 refine tl 30 ?_;(try simp only [aF])
 refine tp 31 ?_;(try simp only [aF])
 clear hS;revert HP HQ HA HW HB;apply join6 (F:=fun (b9:Nat) (u vo vn:Value) (y9:Lay) (W:World)=> Hid (W.heap[w.heap.size]? =some (.cells #[.slice (some ⟨gp,offp,none⟩) nse cpp,.int .i64 P.fr,.slice aw P.ws.length cw,vc,.slice ai l.length ci,.int .i64 n,.int .i64 (i:Int)] 72 (0,0)))∧Hid (W.heap[b5]? =some (.cells (aS y1 m1) 61 (0,0)))∧Hid (W.heap[b8]? =some (.cells (aY x1.y s1) 67 (0,0)))∧Hid (Below Wo.heap.size Wo W)∧Hid (Below w.heap.size w W)∧Hid (W.heap[b9]? =some (.cells zKe 67 (0,0)))∧b8<b9∧Hid (∃ bs,aH W y9 bs dd.k))
 case h2=>
  intro hj HP HQ HA HW HB;refine oT (i:=11) (j:=33) (by kernel_rfl) rfl rfl (fun K hK=> ?_) (fun K hK=> ?_)
  · refine want rfl ?_;go_simp;refine (TOwn (.slice ai l.length ci) l (i:Int) _ (HIM.out _ HB.out) hi0).mono ?_;rintro er Wx ⟨u,rfl,rfl,hu⟩;have HU:Hid (Rd 1 strCells Wx u (guestOf P l i).images):=hU (by rw [Int.toNat_natCast] at hu;exact hu);clear hu;dsimp only;refine nx hK (HSF.out _ HP HQ HA HW) fun hS=> ?_;clear hK K hS;(try simp only [aF])
    refine oT (i:=16) (j:=33) (by kernel_rfl) rfl rfl (fun K hK=> ?_) (fun K hK=> ?_)
    · refine want rfl ?_;go_simp;refine (R15Outs (.slice (some ⟨gp,offp,none⟩) nse cpp) (.slice aw P.ws.length cw) vc P.fr (i:Int) (fD P) _ (HPL.out _ HB.out).ch HCL.out).mono ?_;rintro er Wr ⟨vo,rfl,hu,hb⟩;replace HP:=nB hb HP;replace HQ:=nB hb HQ;replace HA:=nB hb HA;replace HW:=hU (HW.out.trans (hb.mono HW.out.size));replace HB:=nW hb HB;replace HU:=hU (HU.out.below hb);have HO:=hU hu;clear hb hu;dsimp only;refine nx hK (HSF.out _ HP HQ HA HW) fun hS=> ?_;clear hK K hS;(try simp only [aF])
      refine oT (i:=21) (j:=33) (by kernel_rfl) rfl rfl (fun K hK=> ?_) (fun K hK=> ?_)
      · refine want rfl ?_;go_simp;refine (R15Ins (.slice (some ⟨gp,offp,none⟩) nse cpp) (.slice aw P.ws.length cw) vc P.fr (i:Int) (fD P) _ (HPL.out _ HB.out).ch HCL.out).mono ?_;rintro er Wr ⟨vn,rfl,hu,hb⟩;replace HP:=nB hb HP;replace HQ:=nB hb HQ;replace HA:=nB hb HA;replace HW:=hU (HW.out.trans (hb.mono HW.out.size));replace HB:=nW hb HB;replace HU:=hU (HU.out.below hb);replace HO:=hU (HO.out.below hb);have HI:=hU hu;clear hb hu;dsimp only;refine nx hK (HSF.out _ HP HQ HA HW) fun hS=> ?_;clear hK K hS;(try simp only [aF])
        refine oT (i:=32) (j:=33) (by kernel_rfl) rfl rfl (fun K hK=> ?_) (fun K hK=> ?_)
        · refine want rfl ?_;go_simp;refine (HRN.out u vo vn _ HU.out HO.out HI.out (HRD.out.below HW.out) (HT.out _ HB.out)).mono ?_;rw [hnt,HDD1.out];rintro er Wr ⟨vD,rfl,⟨y9,bs9,rfl,hl⟩,hb⟩;replace HP:=nB hb HP;replace HQ:=nB hb HQ;replace HA:=nB hb HA;replace HW:=hU (HW.out.trans (hb.mono HW.out.size));replace HB:=nW hb HB;replace HU:=hU (HU.out.below hb);replace HO:=hU (HO.out.below hb);replace HI:=hU (HI.out.below hb);have HD:Hid (∃ bs,aH Wr y9 bs dd.k):=hU ⟨bs9,hl⟩;clear hb hl;dsimp only;refine nx hK (HSF.out _ HP HQ HA HW) fun hS=> ?_;clear hK K hS;(try simp only [aF])
          refine ro 33 fun K hK=> ?_;go_simp;obtain ⟨b9,hab,hbz⟩:=nbz HB;have hbn:=nlt HA hab;obtain ⟨Wa,hWn,hba,HN⟩:=nb1 (W:=_) (.cells zKe 67) hab;rw [hWn];clear hWn;replace HP:=nB hba HP;replace HQ:=nB hba HQ;replace HA:=nB hba HA;replace HW:=hU (HW.out.trans (hba.mono HW.out.size));replace HB:=nW hba HB;replace HU:=hU (HU.out.below hba);replace HO:=hU (HO.out.below hba);replace HI:=hU (HI.out.below hba);replace HD:=hU (HD.out.imp fun _ h=> h.below hba);clear hba;try rw [hab]
          clear hab;refine nx hK (HSF.out _ HP HQ HA HW) fun hS=> ?_;clear hK K hS;(try simp only [aF])
          exact hj b9 u vo vn y9 Wa ⟨HP,HQ,HA,HW,HB,HN,hbn,HD⟩
        · go_simp;obtain ⟨b9,hab,hbz⟩:=nbz HB;have hbn:=nlt HA hab;obtain ⟨Wa,hWn,hba,HN⟩:=nb1 (W:=_) (.cells zKe 67) hab;rw [hWn];clear hWn;replace HP:=nB hba HP;replace HQ:=nB hba HQ;replace HA:=nB hba HA;replace HW:=hU (HW.out.trans (hba.mono HW.out.size));replace HB:=nW hba HB;replace HU:=hU (HU.out.below hba);replace HO:=hU (HO.out.below hba);replace HI:=hU (HI.out.below hba);clear hba;try rw [hab]
          clear hab;refine nx hK (HSF.out _ HP HQ HA HW) fun hS=> ?_;clear hK K hS;(try simp only [aF])
          refine ro 32 fun K hK=> ?_;refine want rfl ?_;go_simp;refine (HRN.out u vo vn _ HU.out HO.out HI.out (HRD.out.below HW.out) (HT.out _ HB.out)).mono ?_;rw [hnt,HDD1.out];rintro er Wr ⟨vD,rfl,⟨y9,bs9,rfl,hl⟩,hb⟩;replace HP:=nB hb HP;replace HQ:=nB hb HQ;replace HA:=nB hb HA;replace HW:=hU (HW.out.trans (hb.mono HW.out.size));replace HB:=nW hb HB;replace HU:=hU (HU.out.below hb);replace HO:=hU (HO.out.below hb);replace HI:=hU (HI.out.below hb);replace HN:=nB hb HN;have HD:Hid (∃ bs,aH Wr y9 bs dd.k):=hU ⟨bs9,hl⟩;clear hb hl;dsimp only;refine nx hK (HSF.out _ HP HQ HA HW) fun hS=> ?_;clear hK K hS;(try simp only [aF])
          exact wpL_cast (hj b9 u vo vn y9 Wr ⟨HP,HQ,HA,HW,HB,HN,hbn,HD⟩)
      · go_simp;obtain ⟨b9,hab,hbz⟩:=nbz HB;have hbn:=nlt HA hab;obtain ⟨Wa,hWn,hba,HN⟩:=nb1 (W:=_) (.cells zKe 67) hab;rw [hWn];clear hWn;replace HP:=nB hba HP;replace HQ:=nB hba HQ;replace HA:=nB hba HA;replace HW:=hU (HW.out.trans (hba.mono HW.out.size));replace HB:=nW hba HB;replace HU:=hU (HU.out.below hba);replace HO:=hU (HO.out.below hba);clear hba;try rw [hab]
        clear hab;refine nx hK (HSF.out _ HP HQ HA HW) fun hS=> ?_;clear hK K hS;(try simp only [aF])
        refine ro 21 fun K hK=> ?_;refine want rfl ?_;go_simp;refine (R15Ins (.slice (some ⟨gp,offp,none⟩) nse cpp) (.slice aw P.ws.length cw) vc P.fr (i:Int) (fD P) _ (HPL.out _ HB.out).ch HCL.out).mono ?_;rintro er Wr ⟨vn,rfl,hu,hb⟩;replace HP:=nB hb HP;replace HQ:=nB hb HQ;replace HA:=nB hb HA;replace HW:=hU (HW.out.trans (hb.mono HW.out.size));replace HB:=nW hb HB;replace HU:=hU (HU.out.below hb);replace HO:=hU (HO.out.below hb);replace HN:=nB hb HN;have HI:=hU hu;clear hb hu;dsimp only;refine nx hK (HSF.out _ HP HQ HA HW) fun hS=> ?_;clear hK K hS;(try simp only [aF])
        refine ro 32 fun K hK=> ?_;refine want rfl ?_;go_simp;refine (HRN.out u vo vn _ HU.out HO.out HI.out (HRD.out.below HW.out) (HT.out _ HB.out)).mono ?_;rw [hnt,HDD1.out];rintro er Wr ⟨vD,rfl,⟨y9,bs9,rfl,hl⟩,hb⟩;replace HP:=nB hb HP;replace HQ:=nB hb HQ;replace HA:=nB hb HA;replace HW:=hU (HW.out.trans (hb.mono HW.out.size));replace HB:=nW hb HB;replace HU:=hU (HU.out.below hb);replace HO:=hU (HO.out.below hb);replace HN:=nB hb HN;replace HI:=hU (HI.out.below hb);have HD:Hid (∃ bs,aH Wr y9 bs dd.k):=hU ⟨bs9,hl⟩;clear hb hl;dsimp only;refine nx hK (HSF.out _ HP HQ HA HW) fun hS=> ?_;clear hK K hS;(try simp only [aF])
        exact wpL_cast (hj b9 u vo vn y9 Wr ⟨HP,HQ,HA,HW,HB,HN,hbn,HD⟩)
    · go_simp;obtain ⟨b9,hab,hbz⟩:=nbz HB;have hbn:=nlt HA hab;obtain ⟨Wa,hWn,hba,HN⟩:=nb1 (W:=_) (.cells zKe 67) hab;rw [hWn];clear hWn;replace HP:=nB hba HP;replace HQ:=nB hba HQ;replace HA:=nB hba HA;replace HW:=hU (HW.out.trans (hba.mono HW.out.size));replace HB:=nW hba HB;replace HU:=hU (HU.out.below hba);clear hba;try rw [hab]
      clear hab;refine nx hK (HSF.out _ HP HQ HA HW) fun hS=> ?_;clear hK K hS;(try simp only [aF])
      refine ro 16 fun K hK=> ?_;refine want rfl ?_;go_simp;refine (R15Outs (.slice (some ⟨gp,offp,none⟩) nse cpp) (.slice aw P.ws.length cw) vc P.fr (i:Int) (fD P) _ (HPL.out _ HB.out).ch HCL.out).mono ?_;rintro er Wr ⟨vo,rfl,hu,hb⟩;replace HP:=nB hb HP;replace HQ:=nB hb HQ;replace HA:=nB hb HA;replace HW:=hU (HW.out.trans (hb.mono HW.out.size));replace HB:=nW hb HB;replace HU:=hU (HU.out.below hb);replace HN:=nB hb HN;have HO:=hU hu;clear hb hu;dsimp only;refine nx hK (HSF.out _ HP HQ HA HW) fun hS=> ?_;clear hK K hS;(try simp only [aF])
      refine ro 21 fun K hK=> ?_;refine want rfl ?_;go_simp;refine (R15Ins (.slice (some ⟨gp,offp,none⟩) nse cpp) (.slice aw P.ws.length cw) vc P.fr (i:Int) (fD P) _ (HPL.out _ HB.out).ch HCL.out).mono ?_;rintro er Wr ⟨vn,rfl,hu,hb⟩;replace HP:=nB hb HP;replace HQ:=nB hb HQ;replace HA:=nB hb HA;replace HW:=hU (HW.out.trans (hb.mono HW.out.size));replace HB:=nW hb HB;replace HU:=hU (HU.out.below hb);replace HN:=nB hb HN;replace HO:=hU (HO.out.below hb);have HI:=hU hu;clear hb hu;dsimp only;refine nx hK (HSF.out _ HP HQ HA HW) fun hS=> ?_;clear hK K hS;(try simp only [aF])
      refine ro 32 fun K hK=> ?_;refine want rfl ?_;go_simp;refine (HRN.out u vo vn _ HU.out HO.out HI.out (HRD.out.below HW.out) (HT.out _ HB.out)).mono ?_;rw [hnt,HDD1.out];rintro er Wr ⟨vD,rfl,⟨y9,bs9,rfl,hl⟩,hb⟩;replace HP:=nB hb HP;replace HQ:=nB hb HQ;replace HA:=nB hb HA;replace HW:=hU (HW.out.trans (hb.mono HW.out.size));replace HB:=nW hb HB;replace HU:=hU (HU.out.below hb);replace HN:=nB hb HN;replace HO:=hU (HO.out.below hb);replace HI:=hU (HI.out.below hb);have HD:Hid (∃ bs,aH Wr y9 bs dd.k):=hU ⟨bs9,hl⟩;clear hb hl;dsimp only;refine nx hK (HSF.out _ HP HQ HA HW) fun hS=> ?_;clear hK K hS;(try simp only [aF])
      exact wpL_cast (hj b9 u vo vn y9 Wr ⟨HP,HQ,HA,HW,HB,HN,hbn,HD⟩)
  · go_simp;obtain ⟨b9,hab,hbz⟩:=nbz HB;have hbn:=nlt HA hab;obtain ⟨Wa,hWn,hba,HN⟩:=nb1 (W:=_) (.cells zKe 67) hab;rw [hWn];clear hWn;replace HP:=nB hba HP;replace HQ:=nB hba HQ;replace HA:=nB hba HA;replace HW:=hU (HW.out.trans (hba.mono HW.out.size));replace HB:=nW hba HB;clear hba;try rw [hab]
    clear hab;refine nx hK (HSF.out _ HP HQ HA HW) fun hS=> ?_;clear hK K hS;(try simp only [aF])
    refine ro 11 fun K hK=> ?_;refine want rfl ?_;go_simp;refine (TOwn (.slice ai l.length ci) l (i:Int) _ (HIM.out _ HB.out) hi0).mono ?_;rintro er Wx ⟨u,rfl,rfl,hu⟩;have HU:Hid (Rd 1 strCells Wx u (guestOf P l i).images):=hU (by rw [Int.toNat_natCast] at hu;exact hu);clear hu;dsimp only;refine nx hK (HSF.out _ HP HQ HA HW) fun hS=> ?_;clear hK K hS;(try simp only [aF])
    refine ro 16 fun K hK=> ?_;refine want rfl ?_;go_simp;refine (R15Outs (.slice (some ⟨gp,offp,none⟩) nse cpp) (.slice aw P.ws.length cw) vc P.fr (i:Int) (fD P) _ (HPL.out _ HB.out).ch HCL.out).mono ?_;rintro er Wr ⟨vo,rfl,hu,hb⟩;replace HP:=nB hb HP;replace HQ:=nB hb HQ;replace HA:=nB hb HA;replace HW:=hU (HW.out.trans (hb.mono HW.out.size));replace HB:=nW hb HB;replace HN:=nB hb HN;replace HU:=hU (HU.out.below hb);have HO:=hU hu;clear hb hu;dsimp only;refine nx hK (HSF.out _ HP HQ HA HW) fun hS=> ?_;clear hK K hS;(try simp only [aF])
    refine ro 21 fun K hK=> ?_;refine want rfl ?_;go_simp;refine (R15Ins (.slice (some ⟨gp,offp,none⟩) nse cpp) (.slice aw P.ws.length cw) vc P.fr (i:Int) (fD P) _ (HPL.out _ HB.out).ch HCL.out).mono ?_;rintro er Wr ⟨vn,rfl,hu,hb⟩;replace HP:=nB hb HP;replace HQ:=nB hb HQ;replace HA:=nB hb HA;replace HW:=hU (HW.out.trans (hb.mono HW.out.size));replace HB:=nW hb HB;replace HN:=nB hb HN;replace HU:=hU (HU.out.below hb);replace HO:=hU (HO.out.below hb);have HI:=hU hu;clear hb hu;dsimp only;refine nx hK (HSF.out _ HP HQ HA HW) fun hS=> ?_;clear hK K hS;(try simp only [aF])
    refine ro 32 fun K hK=> ?_;refine want rfl ?_;go_simp;refine (HRN.out u vo vn _ HU.out HO.out HI.out (HRD.out.below HW.out) (HT.out _ HB.out)).mono ?_;rw [hnt,HDD1.out];rintro er Wr ⟨vD,rfl,⟨y9,bs9,rfl,hl⟩,hb⟩;replace HP:=nB hb HP;replace HQ:=nB hb HQ;replace HA:=nB hb HA;replace HW:=hU (HW.out.trans (hb.mono HW.out.size));replace HB:=nW hb HB;replace HN:=nB hb HN;replace HU:=hU (HU.out.below hb);replace HO:=hU (HO.out.below hb);replace HI:=hU (HI.out.below hb);have HD:Hid (∃ bs,aH Wr y9 bs dd.k):=hU ⟨bs9,hl⟩;clear hb hl;dsimp only;refine nx hK (HSF.out _ HP HQ HA HW) fun hS=> ?_;clear hK K hS;(try simp only [aF])
    exact wpL_cast (hj b9 u vo vn y9 Wr ⟨HP,HQ,HA,HW,HB,HN,hbn,HD⟩)
 rintro b9 u vo vn y9 Wn ⟨HP,HQ,HA,HW,HB,HN,hbn,HD⟩;obtain ⟨bs9,hl9⟩:=HD.out;have HLD:=hU hl9;clear hl9 HD;refine ro 34 fun K hK=> ?_;refine want rfl ?_;refine cL (v:=.agg (aY y9 dd)) (off:=0) (new:=aY y9 dd) rfl rfl rfl dN.size HN.out rfl (show 0 + 19≤19 by decide) (sP HLD.out) rfl ?_;intro Wn hp;have hbw:=HW.out.size;have HLS:=hU ((HL1.out.below HW.out).put HN.out pH hp);replace HLD:=hU (HLD.out.put HN.out pH hp);have hB:=Below.put HB.out hp (by omega);replace HA:=pO hp HA;replace HB:=hU hB;have HS9:=pA hp;clear hp hB HN HW HP HQ;refine nt hK ?_;clear hK K;(try simp only [aF])
 refine aZ (by kernel_rfl) (NoPanic.normal ?_) _;have HSK:=hU (fun W (h1:aH W x1.y x1.bs s1.k) (h2:aH W y9 bs9 dd.k)=> SameKern (.agg (aJ x1.y s1.k)) (.agg (aJ y9 dd.k)) s1.k W ⟨x1.y,x1.bs,rfl,h1⟩ ⟨y9,bs9,by rw [HDK.out],by rw [← HDK.out];exact h2⟩)
 repeat' (first
  |(refine aE (t:=41) (v:=.agg (aJ x1.y s1.k)) rfl rfl rfl (cB cR HA.out (qGu _ _) rfl) ?_)
  |(refine aE (t:=41) (v:=.agg (aJ y9 dd.k)) rfl rfl rfl (cB cR HS9.out (qGu _ _) rfl) ?_)
  |go_values|go_skip|go_guarded|refine wg ?_|go_step|go_upon)
 refine (HSK.out _ HLS.out HLD.out).mono ?_;rintro er Wn ⟨rfl,hb⟩;replace HA:=nB hb HA;replace HS9:=nB hb HS9;replace HB:=nW hb HB;clear hb;dsimp only;have f1:Wn.cell? ⟨b8,17,none⟩=some (.int .i64 s1.st):=aC HA.out 17;have f2:Wn.cell? ⟨b8,18,none⟩=some (.int .i64 s1.boots):=aC HA.out 18;have f3:Wn.cell? ⟨b9,17,none⟩=some (.int .i64 dd.st):=aC HS9.out 17;have f4:Wn.cell? ⟨b9,18,none⟩=some (.int .i64 s1.boots):=by rw [HDB.out];exact aC HS9.out 18
 obtain ⟨q1,hq1⟩:∃ q,(s1.st==3)=q:=⟨_,rfl⟩
 have hq2:(dd.st==3)=q1:=by have:=HTE.out;rw [hq1] at this;exact (beq_iff_eq.1 this).symm
 refine sg ?_;intros;go_ret;exact cF (by simp) HB.out
end Hy
end Go.Proofs.YtfncknignkndiaaGreatDoor
namespace Go.Proofs.YtfncknignkndiaaGreatDoor.lawTopDed
open Go.ChangeShapes Go.WideShapes Go.ChangeAt Go.RowKit
theorem contract (H:Type) (enc:TypeId × Value→H) (W:World) (base:Nat) (args:Array Value) (ds gs:List (DataW H)) (before:List MemPlace)
 (hval:∀ (j:Nat) t v,Tryz.f5.params[j]? =some t→args[j]? =some v→Value.okWide Tryz.prog W .any base t v)
 (hW:DataW.Whole enc Tryz.prog Tryz.f5.params.toList Rows.topDedSpec.vars false W args.toList ds gs before) (hL:laidMetH Tryz.prog Rows.topDedRow.laid W)
 (hr:(DataW.weightsEach Tryz.prog (Tryz.f5.params.toList ++ (OpenSpec.ofChange Rows.topDedSpec).bare.plain.varTypes Tryz.prog) (ds ++ gs)).all (· ≤reachBytes)=true):
 Calls Tryz.prog 5 args W fun e W'=> ∃ v,e=.returned v∧Rows.topDedSpec.post enc Tryz.prog Tryz.f5 false true false false W args v W':=by
 have hW':=hW;obtain ⟨p,q,hA0,hV,rfl,hfz,hnd⟩:=hW;have hA:DataW.TrodAll enc Tryz.prog W 0 (fun _=> true) true Tryz.f5.params.toList args.toList ds p:=hA0;rw [Tryz.params5] at hA hval;obtain ⟨v0,d0,rfl,rfl,h0⟩:=trodAll_one hA;obtain ⟨rfl,rfl⟩:=trodVars_none hV;obtain ⟨vp,vw,vc,im,P,l,n,part,rfl,hpl,hfr,him,hwl,w0x,w1x⟩:=Hy.open_inTopDed (hval 0 72 v0 rfl rfl) h0;have hsl:=Hy.qYc (j:=0) hr (by kernel_rfl) rfl hwl;refine (Hy.LTopDed vp vw vc im P l n part W hpl hfr him hsl (xAo hL)).mono fun e W' ⟨he,hb⟩=> ?_;subst he;exact ⟨_,rfl,law_post (tb:=4) hW' rfl rfl rfl rfl (by kernel_rfl) Tryz.underlying4 qYd (by rw [Tryz.params5];decide +kernel) hb⟩
abbrev qQt:Array Value:=#[.agg #[.slice none 0 0,.int .i64 0,.slice none 0 0,.slice none 0 0,.slice none 0 0,.int .i64 0,.int .i64 0]]
theorem laid_met (os:Os):laidMet Tryz.prog Rows.topDedRow.laid ((laidWorld os).forCall (fun _ _=> 0) ⟨#[],qQt,[]⟩).memory:=
 laidMet_of_run' 8 (by kernel_rfl) (by kernel_rfl)
theorem reads (os:Os) {H:Type} (enc:TypeId × Value→H):∃ places,DataW.whole enc Tryz.prog ((laidWorld os).forCall (fun _ _=> 0) ⟨#[],qQt,[]⟩).memory Tryz.f5.params.toList Rows.topDedSpec.vars false qQt.toList 8=some ([.agg [.agg [.nil,.lit (.int .i64 0),.nil,.nil],.nil,.lit (.int .i64 0),.lit (.int .i64 0)]],[],places):=
 ⟨[],by kernel_rfl⟩
theorem lifted (os:Os) (started:os.Started) (H:Type) (enc:TypeId × Value→H) (F:Stop.Interp):
 ReturnsInHanded {} Tryz.checked os 5 .any ((OpenSpec.ofChange Rows.topDedSpec).preRow enc Tryz.prog Tryz.f5 Rows.topDedRow.domain false Rows.topDedRow.laid) (((OpenSpec.ofChange Rows.topDedSpec).at F).post enc Tryz.prog Tryz.f5 false true false false):=by
 obtain ⟨places,hx⟩:=reads os enc
 refine returnsInHanded_of_row (C:=Tryz.checked) (s:=OpenSpec.ofChange Rows.topDedSpec) own started (by kernel_rfl) Tryz.func5
  (witness_row_at (enc:=enc) (C:=Tryz.checked) false (laidWorld os) qQt rfl (by kernel_rfl) (by kernel_rfl) (by kernel_rfl)
    (OpenSpec.preRow_of_cond 8 hx (by kernel_rfl) (fun k hk=> by cases hk) (by kernel_rfl) (laid_met os))) ?_
 intro W base args ds gs before hval hW _ hcond hr hL _ _;exact contract H enc W base args ds gs before hval hW hL hr
theorem j0:(Rows.topDedRow.inPlace==Tryz.pinned.checked.prog.inPlace 5)=true:=by kernel_rfl
theorem j1:(Rows.topDedRow.unfollowed==Tryz.pinned.checked.prog.unfollowed 5)=true:=by kernel_rfl
theorem j2:(Rows.topDedRow.recurses==Tryz.pinned.checked.prog.recurses 5)=true:=by kernel_rfl
theorem j3:(Rows.topDedRow.named==Tryz.pinned.checked.prog.varsNamed 5)=true:=by kernel_rfl
theorem facts:joinedFacts Tryz.pinned.checked.prog 5 Tryz.f5 (OpenSpec.ofChange Rows.topDedSpec).bare Rows.topDedRow=true:=by
 unfold joinedFacts;rw [j0,j1,j2,j3];kernel_rfl
theorem said:Rows.TopDedSaid:=
 OpenClaim.holds_of_cond 5 Tryz.f5 rfl rfl rfl rfl rfl rfl rfl ⟨rfl,rfl,rfl,rfl,rfl⟩ rfl rfl rfl rfl rfl (by kernel_rfl) Tryz.func5 facts
  (of_decide_eq_true (by kernel_rfl)) (by unfold Func.isWrapper;first|(rw [if_pos (by decide +kernel)];kernel_rfl)|(rw [if_neg (by decide +kernel)];exact ⟨rfl,rfl⟩))
  (fun os started H enc _ F=> by rw [OpenClaim.pre_eq_preRow];exact lifted os started H enc F)
theorem plain (f:FuncId) (fn:Func) (hf:Tryz.pinned.checked.prog.funcNamed "transom/transomtop.TopDed" =some f) (hfn:Tryz.pinned.checked.prog.funcs[f]? =some fn):
 false=Tryz.pinned.checked.prog.looks []∧∀ (j:Nat) t,fn.params[j]? =some t→Tryz.pinned.checked.prog.wantsStandIn t=false:=by
 obtain rfl:f=5:=Option.some.inj ((show Tryz.prog.funcNamed "transom/transomtop.TopDed" =some 5 by kernel_rfl).symm.trans hf)|>.symm
 obtain rfl:fn=Tryz.f5:=(Option.some.inj (Tryz.func5.symm.trans hfn)).symm;refine ⟨qYe,fun j t ht=> ?_⟩;have hm:=Array.mem_of_getElem? ht;rw [Tryz.params5] at hm;have hall:∀ t ∈ (#[72]:Array TypeId),Tryz.prog.wantsStandIn t=false:=by decide +kernel
 exact hall t hm
theorem card:Rows.TopDedCardSaid:=
 Claim7.holds_tied_plain_at .later [] _ _ _ _ said (fun _ h=> by cases h) (by kernel_rfl) (fun _ h=> by cases h) topDed_row_tie rfl ⟨rfl,rfl⟩ (by kernel_rfl) rfl plain (by kernel_rfl)
#print axioms card
end Go.Proofs.YtfncknignkndiaaGreatDoor.lawTopDed
