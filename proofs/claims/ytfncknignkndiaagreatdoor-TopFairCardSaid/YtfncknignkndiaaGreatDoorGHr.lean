/- hyper.Step: one cycle of the whole machine. Conditions: as told. -/
import Derived.Test.YtfncknignkndiaaGreatDoorGHx
set_option linter.unusedVariables false
set_option maxRecDepth 100000
set_option maxHeartbeats 8000000
set_option linter.unusedSimpArgs false
namespace Go.Proofs.YtfncknignkndiaaGreatDoor
open Tryz
open Go.RowKit KR Kn RegT3
namespace Hy
theorem qYn (y:YL) (m:cX) (n:Nat) (w:World) (h:cW w y m) (hg:dP n m) (hw:gB m) (hn:n + 15≤50000) (hT:Tab w):
 Calls prog 29 #[.agg (aS y m)] w (oD y (gY m) w):=by
 have hc:xO n (wAt m.p m.sched m.now).1.toNat (gA m):=qOr hg.win hw.win hn;have hn':n≤50000:=by omega
 rcases (by cases fQ m.p m.sched m.now <;> simp:fQ m.p m.sched m.now=true∨fQ m.p m.sched m.now=false) with hws|hws
 · by_cases hp:(wAt m.p m.sched m.now).2=2
   · by_cases hst:∀ s,(gA m).seats[(wAt m.p m.sched m.now).1.toNat]? =some s→s.st=1
     · exact qVb y m n w h hg hn' hc hT hws hp hst
     · refine qVc y m n w h hg hn' hc hT hws hp fun s hs h1=> hst fun t ht=> ?_;rw [hs] at ht;obtain rfl:=Option.some.inj ht;exact h1
   · exact qVd y m n w h hg hn' hc hT hws hp fun _ _=> trivial
 · by_cases hp:(wAt m.p m.sched m.now).2=2
   · by_cases hst:∀ s,(gA m).seats[(wAt m.p m.sched m.now).1.toNat]? =some s→s.st=1
     · exact qVe y m n w h hg hn' hc hT hws hp hst
     · refine qVf y m n w h hg hn' hc hT hws hp fun s hs h1=> hst fun t ht=> ?_;rw [hs] at ht;obtain rfl:=Option.some.inj ht;exact h1
   · exact qVg y m n w h hg hn' hc hT hws hp fun _ _=> trivial
end Hy
end Go.Proofs.YtfncknignkndiaaGreatDoor
namespace Go.Proofs.YtfncknignkndiaaGreatDoor
open Tryz
open Go.RowKit KR Kn
namespace Hy
theorem qPl (a:Nat):∀ (b:Nat) (m:cX),jO (a + b) m=jO b (jO a m):=by
 induction a with
 |zero=> intro b m;rw [Nat.zero_add];rfl
 |succ a ih=> intro b m;rw [Nat.add_right_comm];exact ih b (gY m)
theorem xG (n:Nat) (m:cX):jO (n + 1) m=gY (jO n m):=qPl n 1 m
theorem qAu (m:cX):(oQ m).p=m.p∧(oQ m).sched=m.sched∧(oQ m).now=m.now:=by
 obtain ⟨e1,e2,_,e3,_⟩:=qEf m;unfold oQ;split
 · split
   · split
     · obtain ⟨f1,f2,f3⟩:=pF (wAt m.p m.sched m.now).1.toNat (gA m);exact ⟨f1.trans e1,f2.trans e2,f3.trans e3⟩
     · exact ⟨e1,e2,e3⟩
   · exact ⟨e1,e2,e3⟩
 · exact ⟨e1,e2,e3⟩
theorem qSr (m:cX):(gY m).p=m.p:=by
 have h:=(qAu m).1;unfold gY qCw;split <;> exact h
theorem qYf (m:cX):(gY m).now=m.now + 1:=by
 have h:=(qAu m).2.2;unfold gY qCw;split
 · show (oQ m).now + 1=_
   rw [h]
 · show (oQ m).now + 1=_
   rw [h]
theorem qPm:∀ (n:Nat) (m:cX),(jO n m).p=m.p
 |0,_=> rfl
 |n + 1,m=> (qPm n (gY m)).trans (qSr m)
def RunH (w:World) (y:YL) (m:cX) (n:Nat) (iv:Value) (W:World):Prop:=∃ (i:Nat) (y':YL),i≤n∧iv=.int .i64 i∧W.heap[w.heap.size]? =some (.cells (aS y' (jO i m)) 61 (0,0))∧cW W y' (jO i m)∧(y'.vp=y.vp∧y'.vw=y.vw∧y'.vc=y.vc∧y'.im=y.im)∧
 (∃ z,z.size=11∧W.heap[w.heap.size + 1]? =some (.cells z 61 (0,0)))∧Below w.heap.size w W
theorem HRun (y:YL) (m:cX) (k:Nat) (j:Nat) (n:Int) (w:World) (h:cW w y m) (hg:dP k m) (hw:gB m) (hn:j=n.toNat) (hk:k + 15 * j≤50000) (hT:Tab w):
 Calls prog 18 #[.agg (aS y m),.int .i64 n] w (oD y (jO j m) w):=by
 have HMX:Hid (max n 0=(j:Int)):=hU (by omega);clear hn;obtain ⟨q0,q1⟩:=eF w w.heap.size (.cells (aS y m) 61) (.cells zSy 61) rfl;have hb0:Below w.heap.size w ((w.alloc (.cells (aS y m) 61)).alloc (.cells zSy 61)):=bel;obtain ⟨W0,hW0⟩:=exW ((w.alloc (.cells (aS y m) 61)).alloc (.cells zSy 61));rw [hW0] at q0 q1 hb0;have hl0:=h.below hb0;have HP:Hid (∀ W,Below w.heap.size w W→∀ i,iF W y.vp y.vw y.vc (jO i m).p):=hU (fun W hb i=> by rw [qPm];exact h.pl.below hb);have HT:=hU (fun W (h:Below w.heap.size w W)=> hT.below h);have HG:Hid (∀ i,i≤j→dP (k + 15 * i) (jO i m)∧gB (jO i m)):=hU (fun i hi=> hg.run hw (by omega));clear h hT hg hw;go_in
 repeat' (first
  |(rw [hW0];clear hW0)
  |go_values|go_skip|go_guarded|refine wg ?_|go_step|go_upon)
 rw [HMX.out];clear HMX;go_loopw [7] (fun iv wr=> RunH w y m j iv wr) (fun iv _=> j - (intOf iv).toNat)
 case atStart=> exact ⟨0,y,Nat.zero_le _,rfl,q0,hl0,⟨rfl,rfl,rfl,rfl⟩,⟨_,rfl,q1⟩,hb0⟩
 case round=>
  clear q0 q1 hb0 hl0;obtain ⟨i,y1,hi,rfl,hA,hl,hv,⟨z,hz,hRR⟩,hb⟩:=hrel;have HA:=hU hA;have HL:=hU hl;have HZ:=hU hRR;have HB:=hU hb;have HV:=hU hv;have hzb:=hb.size;have hza:=hlt hA;have HPV:Hid (∀ W,Below w.heap.size w W→iF W y1.vp y1.vw y1.vc (jO i m).p):=hU (fun W hb=> by rw [hv.1,hv.2.1,hv.2.2.1];exact HP.out W hb i);clear hA hl hRR hb hv;by_cases hil:i<j
  · repeat' (first
     |(refine aE (t:=61) (v:=.agg (aS y1 (jO i m))) rfl rfl rfl (aD dZ HA.out rfl) ?_)
     |go_values|go_skip|go_guarded|refine wg ?_|go_step|go_upon)
    obtain ⟨hg1,hw1⟩:=HG.out i hi;refine (qYn y1 (jO i m) (k + 15 * i) _ HL.out hg1 hw1 (by omega) (HT.out _ HB.out)).mono ?_;clear hg1 hw1;rintro er W1 ⟨y2,rfl,hl1,hv2,hb1⟩;have HA1:=hU ((hb1.block _ (hlt HA.out)).trans HA.out);have HZ1:=hU ((hb1.block _ (hlt HZ.out)).trans HZ.out);have HB1:=hU (HB.out.trans (hb1.mono hzb));have HL1:=hU hl1;have HV2:Hid (y2.vp=y.vp∧y2.vw=y.vw∧y2.vc=y.vc∧y2.im=y.im):=hU ⟨hv2.1.trans HV.out.1,hv2.2.1.trans HV.out.2.1,hv2.2.2.1.trans HV.out.2.2.1,hv2.2.2.2.trans HV.out.2.2.2⟩;have HPV2:Hid (∀ W,Below w.heap.size w W→iF W y2.vp y2.vw y2.vc (gY (jO i m)).p):=hU (fun W hb=> by rw [HV2.out.1,HV2.out.2.1,HV2.out.2.2.1,← xG];exact HP.out W hb (i + 1));clear hb1 hl1 HA HZ HB HL HV HPV hv2;dsimp only
    repeat' (first
     |(refine sN 61 (.agg (aS y2 (gY (jO i m)))) 0 (aS y2 (gY (jO i m))) dZ.size HA1.out (nT HL1.out) fun W2 hp=> ?_
       have HA2:=hU hp.at_;have HZ2:=hU ((hp.oth (w.heap.size + 1) (by omega)).trans HZ1.out);have HB2:=hU (Below.put HB1.out hp (Nat.le_refl _));have HL2:=hU (HL1.out.put HA1.out hp (HPV2.out _ HB2.out) iX (by decide) (by decide) (by decide));clear hp)
     |go_values|go_skip|go_guarded|refine wg ?_|go_step|go_upon)
    exact ⟨⟨i + 1,y2,by omega,by go_num,by rw [xG];exact HA2.out,by rw [xG];exact HL2.out,HV2.out,⟨z,hz,HZ2.out⟩,HB2.out⟩,by simp [intOf];omega⟩
  · obtain rfl:i=j:=by omega
    repeat' (first
     |(refine aE (t:=61) (v:=.agg (aS y1 (jO i m))) rfl rfl rfl (aD dZ HA.out rfl) ?_)
     |(refine aK (t:=61) (v:=.agg (aS y1 (jO i m))) (off:=0) (new:=aS y1 (jO i m)) rfl rfl rfl rfl dZ.size HZ.out rfl (by rw [hz];decide) (nT HL.out) (eD (by rw [hz];rfl)) ?_;intro W2 hp
       have HZ2:=hU hp.at_;have HB2:=hU (Below.put HB.out hp (Nat.le_succ _));have HL2:=hU (HL.out.put HZ.out hp (HPV.out _ HB2.out) iX (by decide) (by decide) (by decide));clear hp)
     |go_values|go_skip|go_guarded|refine wg ?_|go_step|go_upon)
    (try simp only [Exit.inBlock,Exit.then]);refine bodyPost_ret (cJ results18 dZ rfl HZ2.out rfl) rfl ?_
    exact ⟨_,rfl,HL2.out,HV.out,HB2.out⟩
