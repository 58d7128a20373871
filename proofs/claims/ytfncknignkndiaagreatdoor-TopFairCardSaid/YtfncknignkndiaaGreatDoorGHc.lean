/- hyper.sends: what a partition's guest sent goes to other seats. Conditions: as told. -/
import Derived.Test.YtfncknignkndiaaGreatDoorGHy
import Derived.Test.YtfncknignkndiaaGreatDoorGStep
set_option linter.unusedVariables false
set_option maxRecDepth 100000
set_option maxHeartbeats 8000000
set_option linter.unusedSimpArgs false
namespace Go.Proofs.YtfncknignkndiaaGreatDoor
open Tryz
open Go.RowKit KR Kn RegT3
namespace Hy
theorem qCl (a:Option Addr) (n c:Nat) (w:World) (h:n≤c):Calls prog 155 #[.slice a n c] w (Is (.slice a n n) w):=by
 go_in;refine sg ?_;intros;go_ret;exact ⟨rfl,rfl⟩
theorem qCh:Agg prog 131 3:=gD underlying131 rfl (by kernel_rfl)
theorem qBu:∀ W,(zeroValue 131).run prog W=.ok (.agg #[.int .u64 0,.int .i64 0,.string ⟨#[]⟩]) W:=iU (by kernel_rfl)
theorem qIg (x:jZ):∀ u ∈ (jZ.cells x).toList,u.oneCell'=true:=by
 intro u hu;simp [jZ.cells] at hu;rcases hu with rfl|rfl|rfl <;> rfl
theorem qGw:∀ x:jZ,(jZ.cells x).size=3:=fun _=> rfl
theorem uP (who:Nat):∀ (l:List Out) (m:cX),(l.foldl (eL who) m).p=m.p
 |[],_=> rfl
 |o::l,m=> (uP who l (eL who m o)).trans (qO who m o).1
theorem qSx:One prog 59:=gU underlying59 rfl (by kernel_rfl)
def oD (y:YL) (m:cX) (w:World) (e:Ending) (w':World):Prop:=∃ y',e=.returned (.agg (aS y' m))∧cW w' y' m∧(y'.vp=y.vp∧y'.vw=y.vw∧y'.vc=y.vc∧y'.im=y.im)∧Below w.heap.size w w'
def qVr (w:World) (who:Nat) (m:cX) (l:List Out) (vp vw vc im sv:Value) (iv:Value) (W:World):Prop:=∃ (i:Nat) (y:YL),i≤l.length∧iv=.int .i64 i∧Hid (W.heap[w.heap.size]? =some (.cells (aS y ((l.take i).foldl (eL who) m)) 61 (0,0)))∧Hid (W.heap[w.heap.size + 1]? =some (.cells zSy 61 (0,0)))∧Hid (cW W y ((l.take i).foldl (eL who) m))∧y.vp=vp∧y.vw=vw∧y.vc=vc∧y.im=im∧Hid (Below w.heap.size w W)∧Hid (Sl 194 2 Out.cells W sv l)
theorem qUz (y:YL) (m:cX) (who n:Nat) (s:dU) (w:World) (h:cW w y m) (hg:dP n m) (hs:m.seats[who]? =some s) (hso:uU s.k.sent) (hn:n + s.k.sent.length≤50000):
 Calls prog 110 #[.agg (aS y m),.int .i64 who] w (oD y (s.k.sent.foldl (eL who) m) w):=by
 obtain ⟨q0,q1⟩:=eF w w.heap.size (.cells (aS y m) 61) (.cells zSy 61) rfl;have hb0:Below w.heap.size w ((w.alloc (.cells (aS y m) 61)).alloc (.cells zSy 61)):=bel;obtain ⟨Wn,hW0⟩:∃ W0,(w.alloc (.cells (aS y m) 61)).alloc (.cells zSy 61)=W0:=⟨_,rfl⟩
 rw [hW0] at q0 q1 hb0;have HQ:=hU q0;have HR:=hU q1;have HB:=hU hb0;have HY:=hU (h.below hb0);have HPL:=hU (fun W (hb:Below w.heap.size w W)=> h.pl.below hb);obtain ⟨x,hx,hxs,hl⟩:=HY.out.seat hs;obtain ⟨a,cp,hse,_,_⟩:=HY.out.se.1.shape;have hel:=HY.out.se.1;rw [hse] at hel;obtain ⟨g,off,hga,hgl,hcell0⟩:=hel.elem.2.2.2 who x hx;subst hga;have hwl:who<y.ls.length:=(List.getElem?_eq_some_iff.1 hx).1;have hi0:(0:Int)≤(who:Int):=by omega
 have hi1:(who:Int)<(y.ls.length:Int):=by omega
 obtain ⟨sa,sc,hsv,hsc1,hsc2⟩:=hl.se.shape;have f8:Wn.cell? ⟨w.heap.size,8,none⟩=some (.slice (some ⟨g,off,none⟩) y.ls.length cp):=(aC q0 8).trans (congrArg some hse);have f14:Wn.cell? ⟨g,off + who * 19 + 14,none⟩=some (.slice sa s.k.sent.length sc):=(hcell0 Wn (Below.refl _ _) 14 _ rfl).trans (congrArg some hsv);have HSR:=hU (by rw [← hsv];exact hl.se:Sl 194 2 Out.cells Wn (.slice sa s.k.sent.length sc) s.k.sent);have HG:=hU hg;have HSO:=hU hso;clear hel hcell0 hse hx hxs hl hsv q0 q1 hb0 h hg hs hso;obtain ⟨l,hll⟩:∃ l,s.k.sent=l:=⟨_,rfl⟩
 rw [hll] at f14 HSR HSO hsc1 hn ⊢;clear hll;go_in;repeat' (first|(rw [hW0];clear hW0)|go_values|go_skip|go_guarded|refine wg ?_|go_step|go_upon)
 clear f8 f14 hi0 hi1 hwl;go_loopw [18] (fun iv wr=> qVr w who m l y.vp y.vw y.vc y.im (.slice sa l.length sc) iv wr) (fun iv _=> l.length - (intOf iv).toNat)
 case atStart=> exact ⟨0,y,Nat.zero_le _,rfl,HQ,HR,HY,rfl,rfl,rfl,rfl,HB,HSR⟩
 case round=>
  clear HQ HR HY HB HSR;obtain ⟨i,yi,hi,rfl,HQ,HR,HY,hvp,hvw,hvc,him,HB,HRB⟩:=hrel;obtain ⟨Wn,rfl⟩:∃ Wn,Wn=wr:=⟨_,rfl⟩
  obtain ⟨mi,hmi⟩:∃ mi,(l.take i).foldl (eL who) m=mi:=⟨_,rfl⟩
  have HGI:Hid (dP (n + i) mi):=hU (by
   have:=HG.out.gZ (who:=who) (l:=l.take i) (fun o ho=> HSO.out o (List.mem_of_mem_take ho))
   rw [hmi,List.length_take,Nat.min_eq_left hi] at this;exact this)
  rw [hmi] at HQ HY;have HVP:=hU (And.intro hvp (And.intro hvw (And.intro hvc him)));clear hvp hvw hvc him;by_cases hil:i<l.length
  · have hj1:decide ((i:Int)<(l.length:Int))=true:=by simp [hil]
    have hj1b:decide (i<l.length)=true:=by simp [hil]
    have hj2:(i:Int)<(l.length:Int):=by omega
    have hj0:(0:Int)≤(i:Int):=by omega
    obtain ⟨o,ho⟩:∃ o,l[i]? =some o:=⟨_,List.getElem?_eq_getElem hil⟩
    obtain ⟨gs,os,hsa,hgs,hcell0⟩:=HRB.out.elem.2.2.2 i o ho;subst hsa;have c0:Wn.cell? ⟨gs,os + i * 2,none⟩=some (.int .i64 o.port):=hcell0 Wn (Below.refl _ _) 0 _ rfl;have c1:Wn.cell? ⟨gs,os + i * 2 + 1,none⟩=some (.string o.body):=hcell0 Wn (Below.refl _ _) 1 _ rfl;have hoo:=HSO.out o (List.mem_of_getElem? ho);have hnext:=qIn (who:=who) m ho;rw [hmi] at hnext;have HNX:=hU hnext;have hmp:mi.p=m.p:=by rw [← hmi];exact uP who _ m
    have HPM:Hid (∀ W,Below w.heap.size w W→iF W yi.vp yi.vw yi.vc mi.p):=hU (by rw [hmp,HVP.out.1,HVP.out.2.1,HVP.out.2.2.1];exact HPL.out);have hz0:=hlt HQ.out;have hz1:=hlt HR.out;clear hcell0 ho hnext hmi hmp;obtain ⟨b6,hab6⟩:∃ b6,Wn.heap.size=b6:=⟨_,rfl⟩
    obtain ⟨W1,hW1,hba,HO6⟩:=nb1 (W:=Wn) (.cells #[.int .i64 o.port,.string o.body] 194) hab6;have p0:W1.cell? ⟨w.heap.size,0,none⟩=some yi.vp:=aC (nB hba HQ).out 0;have p1:W1.cell? ⟨w.heap.size,1,none⟩=some (.int .i64 mi.p.fr):=aC (nB hba HQ).out 1;have p2:W1.cell? ⟨w.heap.size,2,none⟩=some yi.vw:=aC (nB hba HQ).out 2;have p3:W1.cell? ⟨w.heap.size,3,none⟩=some yi.vc:=aC (nB hba HQ).out 3;have o0:W1.cell? ⟨b6,0,none⟩=some (.int .i64 o.port):=aC HO6.out 0;have HRT:=hU (RTo yi.vp yi.vw yi.vc mi.p.fr who o.port (fD mi.p) W1 (HY.out.below hba).pl.ch (by have:=(Pl.cQ HGI.out.ck).2.2.2.2.1;unfold fD;rw [List.length_map];omega) (by have:=hoo.2.1;omega));replace HQ:=nB hba HQ;replace HR:=nB hba HR;replace HY:=hU (HY.out.below hba);replace HB:=nW hba HB;replace HRB:=hU (HRB.out.below hba);clear hba;obtain ⟨r,hr⟩:∃ r,uR (fD mi.p) who o.port=r:=⟨_,rfl⟩
    rw [hr] at HRT;have HRR:=hU hr;clear hr;repeat' (first|(rw [hab6,hW1];clear hW1)|(rw [hW1];clear hW1)|go_values|go_skip|go_guarded|refine wg ?_|go_step|go_upon)
    refine HRT.out.mono ?_;rintro er Wn ⟨rfl,hb⟩;replace HQ:=nB hb HQ;replace HR:=nB hb HR;replace HO6:=nB hb HO6;replace HY:=hU (HY.out.below hb);replace HB:=nW hb HB;replace HRB:=hU (HRB.out.below hb);clear hb p0 p1 p2 p3 o0 HRT c0 c1;dsimp only;cases r with
    |none=>
     have hms:eL who mi o=mi:=by unfold eL;rw [HRR.out]
     rw [hms] at HNX;simp only [Option.isSome_none];obtain ⟨b7,hab7,hbz7⟩:=nbz HB;obtain ⟨W7,hW7,hba7,HZ7⟩:=nb1 (W:=Wn) (.cells #[.int .i64 0,.int .i64 0] 252) hab7
     repeat' (first
      |(rw [hW7,hab7];clear hW7)
      |(refine sN 252 (.agg (pS none)) 0 (pS none) lV.size HZ7.out (by intro u hu;simp [Value.cells,pS] at hu;rcases hu with rfl|rfl <;> rfl) fun Wn hp=> ?_
        have hbb:=Below.put hba7 hp (Nat.le_of_eq hab7);replace HQ:=nB hbb HQ;replace HR:=nB hbb HR;replace HO6:=nB hbb HO6;replace HY:=hU (HY.out.below hbb);replace HB:=nW hbb HB;replace HRB:=hU (HRB.out.below hbb);have H7:=pA hp;have hz7:=hlt H7.out;clear hbb hp hba7 HZ7)
      |go_values|go_skip|go_guarded|refine wg ?_|go_step|go_upon)
     exact ⟨⟨i + 1,yi,by omega,by go_num,by rw [HNX.out];exact HQ,HR,by rw [HNX.out];exact HY,HVP.out.1,HVP.out.2.1,HVP.out.2.2.1,HVP.out.2.2.2,HB,HRB⟩,by simp [intOf];omega⟩
    |some qj=>
     obtain ⟨q,j⟩:=qj;obtain ⟨hq0,hq1,hq2,hq3⟩:=qTl HGI.out.ck HRR.out;dsimp only at hq0 hq1 hq2 hq3;obtain ⟨k,hk⟩:∃ k:Nat,(k:Int)=q:=⟨q.toNat,by omega⟩
     subst hk;have hks:k<mi.seats.length:=by rw [HGI.out.sl];omega
     have hka:k<mi.arr.length:=by rw [HGI.out.al];omega
     obtain ⟨tt,htt⟩:∃ t,mi.seats[k]? =some t:=⟨_,List.getElem?_eq_getElem hks⟩
     obtain ⟨aa,haa⟩:∃ a,mi.arr[k]? =some a:=⟨_,List.getElem?_eq_getElem hka⟩
     have hms:eL who mi o={mi with arr:=mi.arr.set k (aa ++ [⟨tt.k.now,j,o.body⟩]),seats:=mi.seats.set k (fX tt j o.body)}:=by
      unfold eL;rw [HRR.out];dsimp only;rw [Int.toNat_natCast,htt,haa]
     rw [hms] at HNX;have HTT:=hU htt;have HAA:=hU haa;clear hms htt haa;simp only [Option.isSome_some];obtain ⟨b7,hab7,hbz7⟩:=nbz HB;obtain ⟨W7,hW7,hba7,HZ7⟩:=nb1 (W:=Wn) (.cells #[.int .i64 0,.int .i64 0] 252) hab7
     repeat' (first
      |(rw [hW7,hab7];clear hW7)
      |(refine sN 252 (.agg (pS (some ((k:Int),j)))) 0 (pS (some ((k:Int),j))) lV.size HZ7.out (by intro u hu;simp [Value.cells,pS] at hu;rcases hu with rfl|rfl <;> rfl) fun Wn hp=> ?_
        have hbb:=Below.put hba7 hp (Nat.le_of_eq hab7);replace HQ:=nB hbb HQ;replace HR:=nB hbb HR;replace HO6:=nB hbb HO6;replace HY:=hU (HY.out.below hbb);replace HB:=nW hbb HB;replace HRB:=hU (HRB.out.below hbb);have H7:=pA hp;have hz7:=hlt H7.out;clear hbb hp hba7 HZ7;have r0:Wn.cell? ⟨b7,0,none⟩=some (.int .i64 k):=aC H7.out 0;obtain ⟨x,hx,hxs,hlx⟩:=HY.out.seat HTT.out;obtain ⟨a8,cp8,hse8,_,_⟩:=HY.out.se.1.shape;have hel:=HY.out.se.1;rw [hse8] at hel;obtain ⟨g8,off8,hga8,hgl8,hcell8⟩:=hel.elem.2.2.2 k x hx;subst hga8;have f8:Wn.cell? ⟨w.heap.size,8,none⟩=some (.slice (some ⟨g8,off8,none⟩) yi.ls.length cp8):=(aC HQ.out 8).trans (congrArg some hse8);have hkl:k<yi.ls.length:=(List.getElem?_eq_some_iff.1 hx).1;have hk0:(0:Int)≤(k:Int):=by omega
        have hk1:(k:Int)<(yi.ls.length:Int):=by omega
        have HLD:Hid ((Instr.loadAt 67 (.pointer (some ⟨g8,off8 + k * 19,none⟩))).run prog Wn=.ok (.agg (aY x.y tt)) Wn):=hU (by
         have h1:=cA (W:=Wn) dN (szSB x) (hcell8 Wn (Below.refl _ _));rw [show SB.cells x=aY x.y tt by unfold SB.cells;rw [hxs]] at h1;exact h1)
        have hlx':aH Wn x.y x.bs tt.k:=by rw [← hxs];exact hxs ▸ hlx
        have HLX:=hU hlx';clear hel hcell8 hse8 hx hxs hlx hlx')
      |(refine aE (t:=67) (v:=.agg (aY x.y tt)) rfl rfl rfl HLD.out ?_
        clear HLD;obtain ⟨b9,hab9,hbz9⟩:=nbz HB;obtain ⟨W9,hW9,hba9,HZ9⟩:=nb1 (W:=Wn) (.cells zKe 67) hab9)
      |(rw [hW9,hab9];clear hW9)
      |(refine sN 67 (.agg (aY x.y tt)) 0 (aY x.y tt) dN.size HZ9.out (sP (HLX.out.below hba9)) fun Wn hp=> ?_
        have hbb:=Below.put hba9 hp (Nat.le_of_eq hab9);replace HQ:=nB hbb HQ;replace HR:=nB hbb HR;replace HO6:=nB hbb HO6;replace H7:=nB hbb H7;replace HY:=hU (HY.out.below hbb);replace HB:=nW hbb HB;replace HRB:=hU (HRB.out.below hbb);replace HLX:=hU (HLX.out.below hbb);have H9:=pA hp;have hz9:=hlt H9.out;clear hbb hp hba9 HZ9 hk0 hk1 hkl f8 r0)
      |go_values|go_skip|go_guarded|refine wg ?_|go_step|go_upon)
     have hG:=HGI.out
     obtain ⟨xa,hxa,hxal⟩:∃ xa,yi.la[k]? =some xa∧xa.l=aa:=by
      have h0:=HAA.out;rw [← HY.out.al,List.getElem?_map] at h0;exact Option.map_eq_some_iff.1 h0
     have hSl:=HY.out.ar.2 xa (List.mem_of_getElem? hxa);rw [hxal] at hSl;obtain ⟨va,ca,hva,hca1,hca2⟩:=hSl.shape;rw [hva] at hSl;obtain ⟨a9,cp9,har9,_,_⟩:=HY.out.ar.1.shape;have hel:=HY.out.ar.1;rw [har9] at hel;obtain ⟨g9,off9,hga9,hgl9,hcell9⟩:=hel.elem.2.2.2 k xa hxa;subst hga9;have hal:aa.length≤n + i:=hG.ar aa (List.mem_of_getElem? HAA.out);have HSA:=hU hSl;have s9:Wn.cell? ⟨w.heap.size,9,none⟩=some (.slice (some ⟨g9,off9,none⟩) yi.la.length cp9):=(aC HQ.out 9).trans (congrArg some har9)
     have c9:Wn.cell? ⟨g9,off9 + k,none⟩=some (.slice va aa.length ca):=by
      have h0:Wn.cell? ⟨g9,off9 + k * 1 + 0,none⟩=some xa.v:=hcell9 Wn (Below.refl _ _) 0 _ rfl;rw [hva] at h0;simpa using h0
     have hkl:k<yi.la.length:=(List.getElem?_eq_some_iff.1 hxa).1;have hk0:(0:Int)≤(k:Int):=by omega
     have hk1:(k:Int)<(yi.la.length:Int):=by omega
     have hAL:yi.la.length≤1000000:=by
      have h1:=HY.out.len.2;rw [h1,hG.al];have:=(Pl.cQ hG.ck).2.1
      omega
     have t70:Wn.cell? ⟨b7,0,none⟩=some (.int .i64 k):=aC H7.out 0;have t71:Wn.cell? ⟨b7,1,none⟩=some (.int .i64 j):=aC H7.out 1;have t97:Wn.cell? ⟨b9,7,none⟩=some (.int .u64 tt.k.now):=aC H9.out 7;have t61:Wn.cell? ⟨b6,1,none⟩=some (.string o.body):=aC HO6.out 1;have HHV:=hU har9;clear hel hcell9 har9 hSl hxa hxal hva hgl9 hG;refine go0 (S:=fun W=> W.cell? ⟨w.heap.size,9,none⟩=some (.slice (some ⟨g9,off9,none⟩) yi.la.length cp9)∧W.cell? ⟨g9,off9 + k,none⟩=some (.slice va aa.length ca)∧W.cell? ⟨b7,0,none⟩=some (.int .i64 k)∧W.cell? ⟨b7,1,none⟩=some (.int .i64 j)∧W.cell? ⟨b9,7,none⟩=some (.int .u64 tt.k.now)∧W.cell? ⟨b6,1,none⟩=some (.string o.body)) [23] (⟨s9,c9,t70,t71,t97,t61⟩) fun hS=> ?_;obtain ⟨Wd,hWd⟩:=exW Wn.drew;replace HQ:=dB hWd HQ;replace HR:=dB hWd HR;replace HO6:=dB hWd HO6;replace H7:=dB hWd H7;replace H9:=dB hWd H9;have hbd:Below Wn.heap.size Wn Wd:=hWd ▸ (Below.refl Wn.heap.size Wn).drew;replace HY:=hU (HY.out.below hbd);replace HB:=nW hbd HB;replace HRB:=hU (HRB.out.below hbd);replace HLX:=hU (HLX.out.below hbd);replace HSA:=hU (HSA.out.below hbd);rw [hWd] at hS ⊢;clear hWd hbd s9 c9 t70 t71 t97 t61;refine tp 0 ?_;(try simp only [aF])
     refine tl 1 ?_;(try simp only [aF])
     refine tp 2 ?_;(try simp only [aF])
     refine tl 3 ?_;(try simp only [aF])
     refine tp 4 ?_;(try simp only [aF])
     refine tl 5 ?_;(try simp only [aF])
     refine tp 6 ?_;(try simp only [aF])
     refine tl 7 ?_;(try simp only [aF])
     refine tp 8 ?_;(try simp only [aF])
     refine tl 9 ?_;(try simp only [aF])
     refine tp 11 ?_;(try simp only [aF])
     refine tp 12 ?_;(try simp only [aF])
     refine tl 13 ?_;(try simp only [aF])
     refine tp 14 ?_;(try simp only [aF])
     refine tl 15 ?_;(try simp only [aF])
     refine tp 16 ?_;(try simp only [aF])
     refine tl 17 ?_;(try simp only [aF])
     refine tp 18 ?_;(try simp only [aF])
     have HSB:=hU (fun (W':World) (hb:Below Wd.heap.size Wd W')=> (⟨(hb.cell (oM hS.1)).trans hS.1,(hb.cell (oM hS.2.1)).trans hS.2.1,(hb.cell (oM hS.2.2.1)).trans hS.2.2.1,(hb.cell (oM hS.2.2.2.1)).trans hS.2.2.2.1,(hb.cell (oM hS.2.2.2.2.1)).trans hS.2.2.2.2.1,(hb.cell (oM hS.2.2.2.2.2)).trans hS.2.2.2.2.2⟩:W'.cell? ⟨w.heap.size,9,none⟩=some (.slice (some ⟨g9,off9,none⟩) yi.la.length cp9)∧W'.cell? ⟨g9,off9 + k,none⟩=some (.slice va aa.length ca)∧W'.cell? ⟨b7,0,none⟩=some (.int .i64 k)∧W'.cell? ⟨b7,1,none⟩=some (.int .i64 j)∧W'.cell? ⟨b9,7,none⟩=some (.int .u64 tt.k.now)∧W'.cell? ⟨b6,1,none⟩=some (.string o.body)));clear hS;obtain ⟨st,hst⟩:∃ st:jZ,(⟨tt.k.now,j,o.body⟩:jZ)=st:=⟨_,rfl⟩
     refine oT (i:=10) (j:=19) (by kernel_rfl) rfl rfl (fun K hK=> ?_) (fun K hK=> ?_);refine want rfl ?_;go_simp;refine (qCl va aa.length ca Wd hca1).mono ?_;rintro er Wk ⟨rfl,rfl⟩;dsimp only;refine nx hK (HSB.out _ (Below.refl _ _)) fun hS=> ?_;clear hK K;(try simp only [aF])
     refine ro 19 fun K hK=> ?_;refine want rfl ?_;refine eH (v:=.agg (jZ.cells st)) _ rfl (by rw [← hst];rfl) underlying69 qCh.size qBu rfl (by decide) (by decide) rfl ?_;refine nx hK (HSB.out _ ((Below.refl _ _).alloc (Nat.le_refl _) _)) fun hS=> ?_;clear hK K;(try simp only [aF])
     rotate_left 1
     refine want rfl ?_;refine eH (v:=.agg (jZ.cells st)) _ rfl (by rw [← hst];rfl) underlying69 qCh.size qBu rfl (by decide) (by decide) rfl ?_;refine nx hK (HSB.out _ ((Below.refl _ _).alloc (Nat.le_refl _) _)) fun hS=> ?_;clear hK K;(try simp only [aF])
     refine ro 10 fun K hK=> ?_;refine want rfl ?_;go_simp;refine (qCl va aa.length ca _ hca1).mono ?_;rintro er Wk ⟨rfl,rfl⟩;dsimp only;refine nx hK hS fun hS=> ?_;clear hK K;(try simp only [aF])
     all_goals
      try clear hS
      obtain ⟨v9,W6,hrun,hown,hb⟩:=jQ (P:=prog) (bytes:=32) (t:=69) (ty:=69) qGw (by decide) underlying69 (by kernel_rfl) qIg (w:=Wd.alloc (.cells (Value.agg (jZ.cells st)).cells 131)) (a:=va) (n:=aa.length) (c:=1) (l:=aa) (Sl.clip (HSA.out.below ((Below.refl _ _).alloc (Nat.le_refl _) _))) (x:=st) (xb:=Wd.heap.size) (fZ Wd _) (by unfold maxLen;omega) (by omega);have HRUN:=hU hrun;have hb6:Below Wd.heap.size Wd W6:=((Below.refl Wd.heap.size Wd).alloc (Nat.le_refl _) _).trans (hb.mono (by simp));refine ro 20 fun K hK=> ?_;refine want rfl ?_;refine jK _ _ _ _ rfl _ _ rfl rfl _ _ HRUN.out ?_;refine nx hK (HSB.out _ hb6) fun hS=> ?_;clear hK K hS;(try simp only [aF])
      have HSN:=hU (KR.Own.sl qGw hown);replace HQ:=nB hb6 HQ;replace HR:=nB hb6 HR;replace HO6:=nB hb6 HO6;replace H7:=nB hb6 H7;replace H9:=nB hb6 H9;replace HY:=hU (HY.out.below hb6);replace HB:=nW hb6 HB;replace HRB:=hU (HRB.out.below hb6);replace HLX:=hU (HLX.out.below hb6);have HB6:=hU hb6;clear hb6 hb hown hrun HRUN;refine ro 21 fun K hK=> ?_;refine want rfl ?_;go_simp;have har:=HY.out.ar;rw [HHV.out] at har;refine (qYm _ yi.la k ⟨v9,aa ++ [st]⟩ W6 har HSN.out hkl hAL).mono ?_;rintro er Wn ⟨vr,rfl,hAr,hb⟩;replace HQ:=nB hb HQ;replace HR:=nB hb HR;replace HO6:=nB hb HO6;replace H7:=nB hb H7;replace H9:=nB hb H9;replace HY:=hU (HY.out.below hb);replace HB:=nW hb HB;replace HRB:=hU (HRB.out.below hb);replace HLX:=hU (HLX.out.below hb);have HAR:=hU hAr;have hb7:=HB6.out.trans (hb.mono HB6.out.size);clear hb hAr har HSN;dsimp only;refine nx hK (HSB.out _ hb7) fun hS=> ?_;clear hK K HB6 hb7;(try simp only [aF])
      refine tp 22 ?_;(try simp only [aF])
      clear hS;refine ro 23 fun K hK=> ?_;refine want rfl ?_;refine fU (v:=vr) (off:=9) (new:=aS {yi with ar:=vr,la:=yi.la.set k ⟨v9,aa ++ [st]⟩} {mi with arr:=mi.arr.set k (aa ++ [st])}) rfl rfl rfl qSx HQ.out HAR.out.1.jF HAR.out.1.jW (show 9 + 1≤11 by decide) rfl ?_;intro Wn hp;have hB:=Below.put HB.out hp (Nat.le_refl _);have HY2:Hid (cW Wn {yi with ar:=vr,la:=yi.la.set k ⟨v9,aa ++ [st]⟩} {mi with arr:=mi.arr.set k (aa ++ [st])}):=hU (cW.put (⟨HY.out.pl,HY.out.im,HY.out.se,HY.out.sl,HAR.out,by rw [List.map_set,HY.out.al]⟩:cW _ {yi with ar:=vr,la:=yi.la.set k ⟨v9,aa ++ [st]⟩} {mi with arr:=mi.arr.set k (aa ++ [st])}) HQ.out hp (HPM.out _ hB) iX (by decide) (by decide) (by decide));replace HR:=hU ((hp.oth _ (by omega)).trans HR.out);replace HO6:=pT hp HQ HO6;replace H7:=pT hp HQ H7;replace H9:=pT hp HQ H9;replace HB:=hU hB;replace HRB:=hU (HRB.out.put HQ.out hp (by decide));replace HLX:=hU (HLX.out.put HQ.out iX hp);replace HQ:=pA hp;clear hB hp HY HAR HSB;refine nt hK ?_;clear hK K;refine aZ (by kernel_rfl) ?_ _;have hG:=HGI.out;have HGD:=hU (hG.sg tt (List.mem_of_getElem? HTT.out))
      have hLS:yi.ls.length≤1000000:=by
       have h1:=HY2.out.len.1;dsimp only at h1;rw [h1,hG.sl];have:=(Pl.cQ hG.ck).2.1
       omega
      have hkls:k<yi.ls.length:=by
       have h1:=HY2.out.len.1;dsimp only at h1;omega
      obtain ⟨a8,cp8,hse8,_,_⟩:=HY2.out.se.1.shape;dsimp only at hse8;have s8:Wn.cell? ⟨w.heap.size,8,none⟩=some yi.se:=aC HQ.out 8;rw [hse8] at s8;have HHS:=hU hse8;clear hse8 hG;(try simp only [aF])
      refine sg ?_;intros;refine go0 (S:=fun W=> W.cell? ⟨w.heap.size,8,none⟩=some (.slice a8 yi.ls.length cp8)∧W.cell? ⟨b7,0,none⟩=some (.int .i64 k)∧W.heap[b9]? =some (.cells (aY x.y tt) 67 (0,0))∧W.cell? ⟨b7,1,none⟩=some (.int .i64 j)∧W.cell? ⟨b6,1,none⟩=some (.string o.body)) [12] (⟨s8,aC H7.out 0,H9.out,aC H7.out 1,aC HO6.out 1⟩) fun hS=> ?_;obtain ⟨Wd,hWd⟩:=exW Wn.drew;replace HQ:=dB hWd HQ;replace HR:=dB hWd HR;replace HO6:=dB hWd HO6;replace H7:=dB hWd H7;replace H9:=dB hWd H9;have hbd:Below Wn.heap.size Wn Wd:=hWd ▸ (Below.refl Wn.heap.size Wn).drew;replace HY2:=hU (HY2.out.below hbd);replace HB:=nW hbd HB;replace HRB:=hU (HRB.out.below hbd);replace HLX:=hU (HLX.out.below hbd);rw [hWd] at hS ⊢;clear hWd hbd s8;refine tp 0 ?_;(try simp only [aF])
      refine tl 1 ?_;(try simp only [aF])
      refine tp 2 ?_;(try simp only [aF])
      refine tl 3 ?_;(try simp only [aF])
      refine tv 4 (.agg (aY x.y tt)) (fun W hSW=> aR rfl rfl (aD dN hSW.2.2.1 rfl)) ?_;(try simp only [aF])
      refine tp 5 ?_;(try simp only [aF])
      refine tl 6 ?_;(try simp only [aF])
      refine tp 7 ?_;(try simp only [aF])
      refine tl 8 ?_;(try simp only [aF])
      clear hS;refine ro 9 fun K hK=> ?_;refine want rfl ?_;go_simp;refine (qNs (.agg (aY x.y tt)) tt j o.body _ ⟨x.y,x.bs,rfl,HLX.out⟩ (by have:=HGD.out.k.bl;omega) (by have:=HGD.out.k.il;omega) (fun q hq=> by have:=HGD.out.k.bn q hq;omega)).mono ?_;rintro er Wn ⟨vA,rfl,⟨yA,bsA,rfl,hl⟩,hb⟩;replace HQ:=nB hb HQ;replace HR:=nB hb HR;replace HO6:=nB hb HO6;replace H7:=nB hb H7;replace H9:=nB hb H9;replace HY2:=hU (HY2.out.below hb);replace HB:=nW hb HB;replace HRB:=hU (HRB.out.below hb);have HLA:=hU hl;clear hb hl HLX;dsimp only;refine nx hK (⟨(aC HQ.out 8).trans (congrArg some HHS.out),aC H7.out 0,H9.out,aC H7.out 1,aC HO6.out 1⟩) fun hS=> ?_;clear hK K hS;(try simp only [aF])
      refine ro 10 fun K hK=> ?_;refine want rfl ?_;go_simp;have hss:mL Wn yi.se yi.ls:=HY2.out.se;rw [HHS.out] at hss;refine (qNi _ yi.ls k ⟨yA,bsA,fX tt j o.body⟩ Wn hss HLA.out hkls hLS).mono ?_;rintro er Wn ⟨vs,rfl,hSe,hb⟩;replace HQ:=nB hb HQ;replace HR:=nB hb HR;replace HO6:=nB hb HO6;replace H7:=nB hb H7;replace H9:=nB hb H9;replace HY2:=hU (HY2.out.below hb);replace HB:=nW hb HB;replace HRB:=hU (HRB.out.below hb);have HSE:=hU hSe;clear hb hSe hss HLA;dsimp only;refine nx hK (⟨(aC HQ.out 8).trans (congrArg some HHS.out),aC H7.out 0,H9.out,aC H7.out 1,aC HO6.out 1⟩) fun hS=> ?_;clear hK K;(try simp only [aF])
      refine tp 11 ?_;(try simp only [aF])
      clear hS;refine ro 12 fun K hK=> ?_;refine want rfl ?_;refine fU (v:=vs) (off:=8) (new:=aS {yi with ar:=vr,la:=yi.la.set k ⟨v9,aa ++ [st]⟩,se:=vs,ls:=yi.ls.set k ⟨yA,bsA,fX tt j o.body⟩} {mi with arr:=mi.arr.set k (aa ++ [st]),seats:=mi.seats.set k (fX tt j o.body)}) rfl rfl rfl uI HQ.out HSE.out.1.jF HSE.out.1.jW (show 8 + 1≤11 by decide) rfl ?_;intro Wn hp;have hB:=Below.put HB.out hp (Nat.le_refl _);have HY:Hid (cW Wn {yi with ar:=vr,la:=yi.la.set k ⟨v9,aa ++ [st]⟩,se:=vs,ls:=yi.ls.set k ⟨yA,bsA,fX tt j o.body⟩} {mi with arr:=mi.arr.set k (aa ++ [st]),seats:=mi.seats.set k (fX tt j o.body)}):=hU (cW.put (⟨HY2.out.pl,HY2.out.im,HSE.out,by rw [List.map_set,HY2.out.sl],HY2.out.ar,HY2.out.al⟩:cW _ {yi with ar:=vr,la:=yi.la.set k ⟨v9,aa ++ [st]⟩,se:=vs,ls:=yi.ls.set k ⟨yA,bsA,fX tt j o.body⟩} {mi with arr:=mi.arr.set k (aa ++ [st]),seats:=mi.seats.set k (fX tt j o.body)}) HQ.out hp (HPM.out _ hB) iX (by decide) (by decide) (by decide));replace HR:=hU ((hp.oth _ (by omega)).trans HR.out);replace HB:=hU hB;replace HRB:=hU (HRB.out.put HQ.out hp (by decide));replace HQ:=pA hp;clear hB hp HY2 HSE H7 H9 HO6;refine nt hK ?_;clear hK K;refine aZ (by kernel_rfl) ?_ _;(try simp only [aF])
      refine sg ?_;intros;have hnx:=HNX.out;rw [hst] at hnx;exact ⟨⟨i + 1,{yi with ar:=vr,la:=yi.la.set k ⟨v9,aa ++ [st]⟩,se:=vs,ls:=yi.ls.set k ⟨yA,bsA,fX tt j o.body⟩},by omega,by go_num,by rw [hnx];exact HQ,HR,by rw [hnx];exact HY,HVP.out.1,HVP.out.2.1,HVP.out.2.2.1,HVP.out.2.2.2,HB,HRB⟩,by simp [intOf];omega⟩
  · have hj1:decide ((i:Int)<(l.length:Int))=false:=by simp;omega
    have hj1b:decide (i<l.length)=false:=by simp;omega
    have hme:l.foldl (eL who) m=mi:=by rw [← hmi,show i=l.length by omega,List.take_length]
    have HME:=hU hme;have hmp:mi.p=m.p:=by rw [← hmi];exact uP who _ m
    have HPM:Hid (∀ W,Below w.heap.size w W→iF W yi.vp yi.vw yi.vc mi.p):=hU (by rw [hmp,HVP.out.1,HVP.out.2.1,HVP.out.2.2.1];exact HPL.out);clear hmi hme hmp;have HON:=hU (nT HY.out)
    repeat' (first
     |(refine aE (t:=61) (v:=.agg (aS yi mi)) rfl rfl rfl (aD dZ HQ.out rfl) ?_)
     |(refine sN 61 (.agg (aS yi mi)) 0 (aS yi mi) dZ.size HR.out HON.out fun We hp=> ?_
       have hB:=Below.put HB.out hp (by omega);have HYE:=hU (HY.out.put HR.out hp (HPM.out _ hB) iX (by decide) (by decide) (by decide));have HRE:=pA hp;have HBE:=hU hB;clear hB hp HY HR HB)
     |go_values|go_skip|go_guarded|refine wg ?_|go_step|go_upon)
    (try simp only [Exit.inBlock,Exit.then]);refine bodyPost_ret (cJ results110 dZ rfl HRE.out rfl) rfl ?_
    rw [HME.out];exact ⟨yi,rfl,HYE.out,HVP.out,HBE.out⟩
def qOj (m:cX):Prop:=∀ t ∈ m.seats, -1000000≤t.k.want∧t.k.want≤1000000
def jS (who:Nat) (s:dU) (m:cX):cX:={m with seats:=m.seats.set who (cP (partOf (m.p.ps.getD who [])) s)}
theorem lW {m:cX} {who:Nat} {s:dU} (hs:m.seats[who]? =some s):lM who m=mC who ((cP (partOf (m.p.ps.getD who [])) s).k.sent.foldl (eL who) (jS who s m)):=by
 unfold lM;rw [hs];rfl
theorem qUx (y:YL) (m:cX) (who n:Nat) (s:dU) (w:World) (h:cW w y m) (hg:dP n m) (hs:m.seats[who]? =some s) (hso:uU (cP (partOf (m.p.ps.getD who [])) s).k.sent) (hn:n + 1 + (cP (partOf (m.p.ps.getD who [])) s).k.sent.length≤50000)
 (hp:oZ (partOf (m.p.ps.getD who []))) (hw:qOj ((cP (partOf (m.p.ps.getD who [])) s).k.sent.foldl (eL who) (jS who s m))) (hT:Tab w):
 Calls prog 69 #[.agg (aS y m),.int .i64 who] w (oD y (lM who m) w):=by
 rw [lW hs];have hwl0:who<m.seats.length:=(List.getElem?_eq_some_iff.1 hs).1
 have hgl:dP (n + 1) (jS who s m):=⟨hg.ck,by show (m.seats.set _ _).length=_;rw [List.length_set];exact hg.sl,hg.al,fun t ht=> by
  rcases List.mem_or_eq_of_mem_set ht with ht|rfl
  · exact (hg.sg t ht).mono (Nat.le_succ n)
  · exact (hg.sg s (List.mem_of_getElem? hs)).nP hp (by omega),fun a ha=> Nat.le_succ_of_le (hg.ar a ha),hg.sc,hg.nx0,hg.nx1,hg.nw0,by have:=hg.nw1;show m.now≤_;omega⟩
 have hsl:(jS who s m).seats[who]? =some (cP (partOf (m.p.ps.getD who [])) s):=List.getElem?_set_self hwl0;obtain ⟨q0,q1⟩:=eF w w.heap.size (.cells (aS y m) 61) (.cells zSy 61) rfl;have hb0:Below w.heap.size w ((w.alloc (.cells (aS y m) 61)).alloc (.cells zSy 61)):=bel;obtain ⟨Wn,hW0⟩:∃ W0,(w.alloc (.cells (aS y m) 61)).alloc (.cells zSy 61)=W0:=⟨_,rfl⟩
 rw [hW0] at q0 q1 hb0;have HQ:=hU q0;have HR:=hU q1;have HB:=hU hb0;have HY:=hU (h.below hb0);have HT:=hU (fun W (hb:Below w.heap.size w W)=> hT.below hb);have HPL:=hU (fun W (hb:Below w.heap.size w W)=> h.pl.below hb);obtain ⟨xp,hxp⟩:∃ xp,partOf (m.p.ps.getD who [])=xp:=⟨_,rfl⟩
 have hpa:=qGl (P:=m.p) (who:=who) (by rw [← hg.sl];exact hwl0);rw [hxp] at hpa hso hn hp hw hsl ⊢;obtain ⟨x,hx,hxs,hlx⟩:=HY.out.seat hs;have HLX:Hid (aH Wn x.y x.bs s.k):=hU hlx;obtain ⟨a8,cp8,hse8,_,_⟩:=h.se.1.shape;have hel:=h.se.1;rw [hse8] at hel;obtain ⟨g8,off8,hga8,hgl8,hcell8⟩:=hel.elem.2.2.2 who x hx;subst hga8;obtain ⟨ap,cpp,hvp,_,_⟩:=h.pl.pa.shape;have hep:=h.pl.pa;rw [hvp] at hep;obtain ⟨gp,offp,hgap,hglp,hcellp⟩:=hep.elem.2.2.2 who xp hpa;subst hgap
 have HC8:Hid (∀ W,Below w.heap.size w W→∀ j u,(aY x.y s)[j]? =some u→W.cell? ⟨g8,off8 + who * 19 + j,none⟩=some u):=hU (fun W hb=> by
  have h1:=hcell8 W hb;rw [show SB.cells x=aY x.y s by unfold SB.cells;rw [hxs]] at h1;exact h1)
 have HCP:Hid (∀ W,Below w.heap.size w W→∀ j u,(Part.cells xp)[j]? =some u→W.cell? ⟨gp,offp + who * 4 + j,none⟩=some u):=hU hcellp;have HSE:=hU hse8;have HVP:=hU hvp;have hkl:who<y.ls.length:=(List.getElem?_eq_some_iff.1 hx).1;have hk0:(0:Int)≤(who:Int):=by omega
 have hk1:(who:Int)<(y.ls.length:Int):=by omega
 have hpl0:who<(parts m.p).length:=(List.getElem?_eq_some_iff.1 hpa).1;have hk2:(who:Int)<((parts m.p).length:Int):=by omega
 have hLS:y.ls.length≤1000000:=by
  rw [h.len.1,hg.sl];have:=(Pl.cQ hg.ck).2.1
  omega
 have HGS:=hU (hg.sg s (List.mem_of_getElem? hs));have HG:=hU hgl;have HSO:=hU hso;have HPO:=hU hp;have HWT:=hU hw;have HSL:=hU hsl;have hlv:jS who s m={m with seats:=m.seats.set who (cP xp s)}:=by unfold jS;rw [hxp]
 have HLV:=hU hlv;clear hel hcell8 hse8 hx hxs hlx hep hcellp hvp hpa q0 q1 hb0 h hg hs hso hp hw hT hgl hsl hlv hxp hgl8 hglp hwl0;go_in;repeat' (first|(rw [hW0];clear hW0)|go_values|go_skip|go_guarded|refine wg ?_|go_step|go_upon)
 refine go0 (S:=fun W=> W.cell? ⟨w.heap.size,8,none⟩=some (.slice (some ⟨g8,off8,none⟩) y.ls.length cp8)∧W.cell? ⟨w.heap.size,0,none⟩=some (.slice (some ⟨gp,offp,none⟩) (parts m.p).length cpp)∧(∀ j u,(Part.cells xp)[j]? =some u→W.cell? ⟨gp,offp + who * 4 + j,none⟩=some u)∧(∀ j u,(aY x.y s)[j]? =some u→W.cell? ⟨g8,off8 + who * 19 + j,none⟩=some u)) [17] (⟨(aC HQ.out 8).trans (congrArg some HSE.out),(aC HQ.out 0).trans (congrArg some HVP.out),HCP.out _ HB.out.drew,HC8.out _ HB.out.drew⟩) fun hS=> ?_;obtain ⟨Wd,hWd⟩:=exW Wn.drew;replace HQ:=dB hWd HQ;replace HR:=dB hWd HR;have hbd:Below Wn.heap.size Wn Wd:=hWd ▸ (Below.refl Wn.heap.size Wn).drew;replace HY:=hU (HY.out.below hbd);replace HB:=nW hbd HB;replace HLX:=hU (HLX.out.below hbd);rw [hWd] at hS ⊢;clear hWd hbd;refine tp 0 ?_;(try simp only [aF])
 refine tl 1 ?_;(try simp only [aF])
 refine tp 2 ?_;(try simp only [aF])
 refine tp 3 ?_;(try simp only [aF])
 refine tp 4 ?_;(try simp only [aF])
 refine tl 5 ?_;(try simp only [aF])
 refine tp 6 ?_;(try simp only [aF])
 refine tp 7 ?_;(try simp only [aF])
 refine tv 8 (.agg (Part.cells xp)) (fun W hSW=> aR rfl rfl (cA nO rfl hSW.2.2.1)) ?_;(try simp only [aF])
 refine tp 9 ?_;(try simp only [aF])
 refine tl 10 ?_;(try simp only [aF])
 refine tp 11 ?_;(try simp only [aF])
 refine tp 12 ?_;(try simp only [aF])
 refine tv 13 (.agg (aY x.y s)) (fun W hSW=> aR rfl rfl (cA dN rfl hSW.2.2.2)) ?_;(try simp only [aF])
 clear hS;refine ro 14 fun K hK=> ?_;refine want rfl ?_;go_simp;refine (qVo xp (.agg (aY x.y s)) s n _ ⟨x.y,x.bs,rfl,HLX.out⟩ HGS.out (by omega) HPO.out (HT.out _ HB.out)).mono ?_;rintro er Wn ⟨vA,rfl,⟨yA,bsA,rfl,hl⟩,hb⟩;replace HQ:=nB hb HQ;replace HR:=nB hb HR;replace HY:=hU (HY.out.below hb);replace HB:=nW hb HB;have HLA:=hU hl;clear hb hl HLX;dsimp only;refine nx hK (⟨(aC HQ.out 8).trans (congrArg some HSE.out),(aC HQ.out 0).trans (congrArg some HVP.out),HCP.out _ HB.out,HC8.out _ HB.out⟩) fun hS=> ?_;clear hK K hS;(try simp only [aF])
 refine ro 15 fun K hK=> ?_;refine want rfl ?_;go_simp;have hss:mL Wn y.se y.ls:=HY.out.se;rw [HSE.out] at hss;refine (qNi _ y.ls who ⟨yA,bsA,cP xp s⟩ Wn hss HLA.out hkl hLS).mono ?_;rintro er Wn ⟨vs,rfl,hSe,hb⟩;replace HQ:=nB hb HQ;replace HR:=nB hb HR;replace HY:=hU (HY.out.below hb);replace HB:=nW hb HB;have HSS:=hU hSe;clear hb hSe hss HLA;dsimp only;refine nx hK (⟨(aC HQ.out 8).trans (congrArg some HSE.out),(aC HQ.out 0).trans (congrArg some HVP.out),HCP.out _ HB.out,HC8.out _ HB.out⟩) fun hS=> ?_;clear hK K;(try simp only [aF])
 refine tp 16 ?_;(try simp only [aF])
 clear hS;refine ro 17 fun K hK=> ?_;refine want rfl ?_;refine fU (v:=vs) (off:=8) (new:=aS {y with se:=vs,ls:=y.ls.set who ⟨yA,bsA,cP xp s⟩} {m with seats:=m.seats.set who (cP xp s)}) rfl rfl rfl uI HQ.out HSS.out.1.jF HSS.out.1.jW (show 8 + 1≤11 by decide) rfl ?_;intro Wn hp;have hB:=Below.put HB.out hp (Nat.le_refl _);have HY1:Hid (cW Wn {y with se:=vs,ls:=y.ls.set who ⟨yA,bsA,cP xp s⟩} {m with seats:=m.seats.set who (cP xp s)}):=hU (cW.put (⟨HY.out.pl,HY.out.im,HSS.out,by rw [List.map_set,HY.out.sl],HY.out.ar,HY.out.al⟩:cW _ {y with se:=vs,ls:=y.ls.set who ⟨yA,bsA,cP xp s⟩} {m with seats:=m.seats.set who (cP xp s)}) HQ.out hp (HPL.out _ hB) iX (by decide) (by decide) (by decide));replace HR:=hU ((hp.oth _ (by omega)).trans HR.out);replace HB:=hU hB;replace HQ:=pA hp;clear hB hp HY HSS;refine nt hK ?_;clear hK K;refine aZ (by kernel_rfl) ?_ _;(try simp only [aF])
 obtain ⟨y1,hy1⟩:∃ y1:YL,{y with se:=vs,ls:=y.ls.set who ⟨yA,bsA,cP xp s⟩}=y1:=⟨_,rfl⟩
 rw [hy1,← HLV.out] at HQ HY1;have HV1:Hid (y1.vp=y.vp∧y1.vw=y.vw∧y1.vc=y.vc∧y1.im=y.im∧(jS who s m).p=m.p):=hU (by rw [← hy1];exact ⟨rfl,rfl,rfl,rfl,rfl⟩);clear hy1;obtain ⟨m1,hm1⟩:∃ m1,jS who s m=m1:=⟨_,rfl⟩
 rw [hm1] at HQ HY1 HV1 HG HSL HWT;have HM1:=hU hm1;clear hm1 HLV
 repeat' (first
  |(refine aE (t:=61) (v:=.agg (aS y1 m1)) rfl rfl rfl (aD dZ HQ.out rfl) ?_)
  |go_values|go_skip|go_guarded|refine wg ?_|go_step|go_upon)
 obtain ⟨m3,hm3⟩:∃ m3,(cP xp s).k.sent.foldl (eL who) m1=m3:=⟨_,rfl⟩
 have h3:=HG.out.gZ (who:=who) HSO.out;have hp3:=uP who (cP xp s).k.sent m1;have hgiv:=qUz y1 m1 who (n + 1) (cP xp s) Wn HY1.out HG.out HSL.out HSO.out (by omega);rw [hm3] at h3 hp3 hgiv HWT;have HM3:=hU hm3;have HG3:=hU h3;have HP3:=hU hp3;have HGV:=hU hgiv;clear h3 hp3 hm3 hgiv;refine HGV.out.mono ?_;rintro er Wn ⟨y3,rfl,hy,hyv,hb⟩;replace HQ:=nB hb HQ;replace HR:=nB hb HR;replace HB:=nW hb HB;have HY:=hU hy;have HV3:Hid (y3.vp=y.vp∧y3.vw=y.vw∧y3.vc=y.vc∧y3.im=y.im∧m3.p=m.p):=hU ⟨hyv.1.trans HV1.out.1,hyv.2.1.trans HV1.out.2.1,hyv.2.2.1.trans HV1.out.2.2.1,hyv.2.2.2.trans HV1.out.2.2.2.1,HP3.out.trans HV1.out.2.2.2.2⟩;have HPM:Hid (∀ W,Below w.heap.size w W→iF W y3.vp y3.vw y3.vc m3.p):=hU (by rw [HV3.out.1,HV3.out.2.1,HV3.out.2.2.1,HV3.out.2.2.2.2];exact HPL.out);have HON:=hU (nT hy);clear hy hyv hb HY1 HGV HP3 HV1;obtain ⟨s3,hs3⟩:∃ s3,m3.seats[who]? =some s3:=⟨_,List.getElem?_eq_getElem (by rw [HG3.out.sl,HV3.out.2.2.2.2];unfold parts at hpl0;rw [List.length_map] at hpl0;exact hpl0)⟩
 have hw3:=HWT.out s3 (List.mem_of_getElem? hs3);have HS3:=hU hs3;have HW3:=hU hw3;clear hs3 hw3;dsimp only;have HN:=hU (show mC who m3=if who=0∧0≤s3.k.want - 3∧s3.k.want - 3<m3.p.ws.length then {m3 with next:=s3.k.want - 3} else m3 by unfold mC;rw [HS3.out])
 repeat' (first
  |(refine sN 61 (.agg (aS y3 m3)) 0 (aS y3 m3) dZ.size HQ.out HON.out fun We hp=> ?_
    have hB:=Below.put HB.out hp (Nat.le_refl _);have HYE:=hU (HY.out.put HQ.out hp (HPM.out _ hB) iX (by decide) (by decide) (by decide));have HRE:=hU ((hp.oth _ (by omega)).trans HR.out);have HBE:=hU hB;have HQE:=pA hp;clear hB hp HY HR HB HQ;obtain ⟨a3,cp3,hse3,_,_⟩:=HYE.out.se.1.shape;obtain ⟨x3,hx3,hxs3,_⟩:=HYE.out.seat HS3.out;have he3:=HYE.out.se.1;rw [hse3] at he3;obtain ⟨g3,off3,hga3,hgl3,hcell3⟩:=he3.elem.2.2.2 who x3 hx3;subst hga3;have hk3:(who:Int)<(y3.ls.length:Int):=by have:=(List.getElem?_eq_some_iff.1 hx3).1;omega
    obtain ⟨aw,cw,hvw⟩:∃ a c,y3.vw=.slice a m3.p.ws.length c:=by
     obtain ⟨vp',vw',vc',hv,_,hw,_⟩:=HYE.out.pl.pl;unfold eV at hv;injection hv with hv
     simp only [Array.mk.injEq,List.cons.injEq,and_true,true_and] at hv;rw [hv.2.1];obtain ⟨a,c,h,_⟩:=hw;exact ⟨a,c,h⟩
    have e8:We.cell? ⟨w.heap.size,8,none⟩=some (.slice (some ⟨g3,off3,none⟩) y3.ls.length cp3):=(aC HQE.out 8).trans (congrArg some hse3);have e2:We.cell? ⟨w.heap.size,2,none⟩=some (.slice aw m3.p.ws.length cw):=(aC HQE.out 2).trans (congrArg some hvw)
    have e15:We.cell? ⟨g3,off3 + who * 19 + 15,none⟩=some (.int .i64 s3.k.want):=by
     have h1:=hcell3 We (Below.refl _ _) 15;rw [show SB.cells x3=aY x3.y s3 by unfold SB.cells;rw [hxs3]] at h1;exact h1 _ rfl
    obtain ⟨hw0,hw1⟩:=HW3.out;clear hse3 hx3 hxs3 he3 hgl3 hcell3 hvw)
  |(refine aP (t:=3) (v:=.int .i64 (s3.k.want - 3)) (off:=7) (new:=aS y3 {m3 with next:=s3.k.want - 3}) rfl rfl rfl rfl cO HQE.out rfl rfl (show 7 + 1≤11 by decide) rfl ?_;intro We hp
    have hB:=Below.put HBE.out hp (Nat.le_refl _);have HY4:Hid (cW We y3 {m3 with next:=s3.k.want - 3}):=hU (cW.put (⟨HYE.out.pl,HYE.out.im,HYE.out.se,HYE.out.sl,HYE.out.ar,HYE.out.al⟩:cW _ y3 {m3 with next:=s3.k.want - 3}) HQE.out hp (HPM.out _ hB) iX (by decide) (by decide) (by decide));replace HRE:=hU ((hp.oth _ (by omega)).trans HRE.out);replace HBE:=hU hB;have HQ4:=pA hp;clear hB hp HYE HQE)
  |(refine aE (t:=61) (v:=.agg (aS y3 {m3 with next:=s3.k.want - 3})) rfl rfl rfl (aD dZ HQ4.out rfl) ?_)
  |(refine aE (t:=61) (v:=.agg (aS y3 m3)) rfl rfl rfl (aD dZ HQE.out rfl) ?_)
  |(refine sN 61 (.agg (aS y3 {m3 with next:=s3.k.want - 3})) 0 (aS y3 {m3 with next:=s3.k.want - 3}) dZ.size HRE.out (nT HY4.out) fun We hp=> ?_
    have hB:=Below.put HBE.out hp (by omega);have HY5:=hU (HY4.out.put HRE.out hp (HPM.out _ hB) iX (by decide) (by decide) (by decide));have HR5:=pA hp;have HB5:=hU hB;clear hB hp HY4 HQ4)
  |(refine sN 61 (.agg (aS y3 m3)) 0 (aS y3 m3) dZ.size HRE.out (nT HYE.out) fun We hp=> ?_
    have hB:=Below.put HBE.out hp (by omega);have HY5:=hU (HYE.out.put HRE.out hp (HPM.out _ hB) iX (by decide) (by decide) (by decide));have HR5:=pA hp;have HB5:=hU hB;clear hB hp HYE HQE)
  |go_values|go_skip|go_guarded|refine wg ?_|go_step|go_upon)
 all_goals
  (try simp only [Exit.inBlock,Exit.then]);refine bodyPost_ret (cJ results69 dZ rfl HR5.out rfl) rfl ?_
  (try rw [HM1.out])
  rw [HM3.out,HN.out];first
  |(rw [if_neg (by omega)];exact ⟨y3,rfl,HY5.out,⟨HV3.out.1,HV3.out.2.1,HV3.out.2.2.1,HV3.out.2.2.2.1⟩,HB5.out⟩)
  |(rw [if_pos (by refine ⟨?_,?_,?_⟩ <;> omega)];exact ⟨y3,rfl,HY5.out,⟨HV3.out.1,HV3.out.2.1,HV3.out.2.2.1,HV3.out.2.2.2.1⟩,HB5.out⟩)
