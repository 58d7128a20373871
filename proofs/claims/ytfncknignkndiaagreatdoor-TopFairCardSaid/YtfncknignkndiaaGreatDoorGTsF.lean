/- The helpers of top's laws: few, most; a machine that begins is right and small. Conditions: as told. -/
import Derived.Test.YtfncknignkndiaaGreatDoorGHr
import Derived.Test.YtfncknignkndiaaGreatDoorGCard
set_option linter.unusedVariables false
set_option maxRecDepth 100000
set_option maxHeartbeats 8000000
set_option linter.unusedSimpArgs false
namespace Go.Proofs.YtfncknignkndiaaGreatDoor
open Go.Proofs.Tryz
open Go.RowKit KR Kn
namespace Hy
theorem uY (mem:Int) (images:List ByteArray) (outs ins:List cS) (now:Int):(eK mem images outs ins now).want=0:=by
 unfold eK;dsimp only;repeat' split
 all_goals first|rfl|exact (pD _ _).2
theorem qR (x:Part) (images:List ByteArray) (outs ins:List cS):(jP x images outs ins).k.want=0:=by
 unfold jP;rw [(qU _ _).2];exact uY _ _ _ _ _
theorem qN {P:Pl.fH} {l:List (List ByteArray)} (hc:Pl.check P=0) (hl:∀ r ∈ l,r.length≤8):dP 0 (gE P l)∧gB (gE P l):=by
 obtain ⟨h1,h2,h3,h4,h5,h6,_⟩:=Pl.cQ hc;have hcs:(fD P).length≤6:=by unfold fD;rw [List.length_map];exact h5
 refine ⟨⟨hc,?_,?_,fun s hs=> ?_,fun a ha=> ?_,?_,Int.le_refl _,?_,Int.le_refl _,Int.le_refl _⟩,fun s hs=> ?_⟩
 · show (List.map _ _).length=_
   rw [List.length_map,List.length_range];rfl
 · exact List.length_replicate
 · obtain ⟨i,_,rfl⟩:=List.mem_map.1 hs;refine xZ (g:=⟨partOf (P.ps.getD i []),l.getD i [],oG (fD P) i,lH (fD P) i⟩) ⟨?_,?_,?_,zZ hc i⟩
   · show (l.getD i []).length≤8
     rw [List.getD_eq_getElem?_getD];cases h:l[i]? with
     |none=> decide
     |some r=> exact hl r (List.mem_of_getElem? h)
   · exact Nat.le_trans (List.length_filter_le _ _) (by omega)
   · exact Nat.le_trans (List.length_filter_le _ _) (by omega)
 · obtain rfl:=List.eq_of_mem_replicate ha;exact Nat.le_refl _
 · show 0<P.ws.length
   omega
 · show (0:Int)<P.ws.length
   omega
 · obtain ⟨i,_,rfl⟩:=List.mem_map.1 hs;rw [qR];decide
def sW (l:List (List ByteArray)):Bool:=l.all (fun r=> decide (r.length≤8)) && decide (l.length≤8)
theorem qOx {l:List (List ByteArray)} (h:sW l=true):∀ r ∈ l,r.length≤8:=by
 unfold sW at h;rw [Bool.and_eq_true,List.all_eq_true] at h;intro r hr;simpa using h.1 r hr
theorem qEa {l:List (List ByteArray)} {i:Nat} {r:List ByteArray} (h:l[i]? =some r) (hr:8<r.length):sW l=false:=by
 unfold sW;rw [Bool.and_eq_false_iff];left
 rw [List.all_eq_false];exact ⟨r,List.mem_of_getElem? h,by simpa using hr⟩
def qGy (n:Int):Int:=if n<0 then 0 else if 600<n then 600 else n
theorem xAf (n:Int):0≤qGy n∧qGy n≤600:=by
 unfold qGy;split
 · omega
 · split <;> omega
theorem qYl (n:Int) (w:World):Calls prog 13 #[.int .i64 n] w (Is (.int .i64 (qGy n)) w):=by
 unfold qGy;by_cases h0:n<0
 · have e0:decide (n<0)=true:=by simp [h0]
   rw [if_pos h0];go_in;refine sg ?_;intros;go_ret;exact ⟨rfl,rfl⟩
 · have e0:decide (n<0)=false:=by simp;omega
   rw [if_neg h0];by_cases h:600<n
   · have e:decide (600<n)=true:=by simp [h]
     rw [if_pos h];go_in;refine sg ?_;intros;go_ret;exact ⟨rfl,rfl⟩
   · have e:decide (600<n)=false:=by simp;omega
     rw [if_neg h];go_in;refine sg ?_;intros;go_ret;exact ⟨rfl,rfl⟩
def FewR (l:List (List ByteArray)) (w:World) (iv:Value) (W:World):Prop:=∃ i:Nat,i≤l.length∧iv=.int .i64 i∧W=w∧∀ k r,k<i→l[k]? =some r→r.length≤8
theorem HFew (v:Value) (l:List (List ByteArray)) (w:World) (h:tP w v l):Calls prog 16 #[v] w (Is (.bool (sW l)) w):=by
 obtain ⟨a,c,rfl,hlc,hmax,hh⟩:=h;have hl63:l.length≤9223372036854775807:=by omega
 have HH:=hU hh;clear hh hlc;go_in;refine sg ?_;intros;go_loopw [3] (fun iv wr=> FewR l w iv wr) (fun iv _=> l.length - (intOf iv).toNat)
 case atStart=> exact ⟨0,Nat.zero_le _,rfl,rfl,fun k r hk=> by omega⟩
 case round=>
  obtain ⟨i,hi,rfl,rfl,hall⟩:=hrel;have HA:=hU hall;clear hall;have i0:(0:Int)≤(i:Int):=by omega
  by_cases hil:i<l.length
  · have e1:decide ((i:Int)<(l.length:Int))=true:=by simp;omega
    have e2:decide (i<l.length)=true:=by simp;omega
    have e3:(i:Int)<(l.length:Int):=by omega
    have e4:IntKind.i64.wrap ((i:Int) + 1)=(i:Int) + 1:=by rw [IntKind.wrap_i64];omega
    obtain ⟨r,hr⟩:∃ r,l[i]? =some r:=⟨_,List.getElem?_eq_getElem hil⟩
    rcases HH.out with rfl|⟨b,off,rfl,hb,hc⟩
    · simp at hil
    · obtain ⟨u,hu,hur⟩:=hc i r hr;obtain ⟨a2,c2,rfl,_,_⟩:=hur.shape;have HR:=hU hr;clear hc hur hr;by_cases h8:8<r.length
      · have e5:decide ((8:Int)<(r.length:Int))=true:=by simp;omega
        have e6:decide (8<r.length)=true:=by simp;omega
        have HF:=hU (qEa HR.out h8);refine sg ?_;intros;go_ret;rw [HF.out];exact ⟨rfl,rfl⟩
      · have e5:decide ((8:Int)<(r.length:Int))=false:=by simp;omega
        have e6:decide (8<r.length)=false:=by simp;omega
        refine sg ?_;intros;refine ⟨⟨i + 1,by omega,by go_num,rfl,fun k r' hk hk2=> ?_⟩,by simp [intOf];omega⟩;by_cases hki:k=i
        · subst hki;rw [HR.out] at hk2;obtain rfl:=Option.some.inj hk2;omega
        · exact HA.out k r' (by omega) hk2
  · have e1:decide ((i:Int)<(l.length:Int))=false:=by simp;omega
    have e2:decide (i<l.length)=false:=by simp;omega
    have hF:sW l=decide ((l.length:Int)≤8):=by
     unfold sW
     have:l.all (fun r=> decide (r.length≤8))=true:=List.all_eq_true.2 fun r hr=> by
      obtain ⟨k,hk⟩:=List.getElem?_of_mem hr;simpa using HA.out k r (by have:=(List.getElem?_eq_some_iff.1 hk).1;omega) hk
     rw [this,Bool.true_and];simp;omega
    have HF:=hU hF;clear hF;refine sg ?_;intros;go_ret;refine ⟨?_,rfl⟩;rw [HF.out];first|rfl|simp
end Hy
end Go.Proofs.YtfncknignkndiaaGreatDoor
namespace Go.Proofs.YtfncknignkndiaaGreatDoor
open Go.Proofs.Tryz
open Go.RowKit KR Kn RegT3
namespace Hy
def exP:Pl.fH:=⟨[[64,1,1,1]],10,[[[0,0,10]]],[]⟩
theorem qFw:Pl.check exP=0:=by kernel_rfl
theorem qHs:(jO 10 (gE exP [])).seats.map (fun s=> s.k.now)=[8]∧(jO 10 (gE exP [])).now=10:=⟨by kernel_rfl,by kernel_rfl⟩
theorem qBs:∀ W,(zeroValue 76).run prog W=.ok (.agg #[.int .i64 0,.int .i64 0,.int .i64 0,.int .i64 0]) W:=iU (by kernel_rfl)
theorem qFb:∀ W,(zeroValue 96).run prog W=.ok (.agg #[.int .i64 0,.int .i64 0,.int .i64 0]) W:=iU (by kernel_rfl)
theorem qBv:∀ W,(zeroValue 97).run prog W=.ok (.slice none 0 0) W:=iU (by kernel_rfl)
theorem qEh:One prog 97:=gU underlying97 rfl (by kernel_rfl)
theorem qDy {W:World} {b:Nat} (h1:W.heap[b]? =some (.cells #[.int .i64 64,.int .i64 1,.int .i64 1,.int .i64 1] 76 (0,0))) (h2:W.heap[b + 1]? =some (.cells #[.int .i64 0,.int .i64 0,.int .i64 10] 96 (0,0)))
 (h3:W.heap[b + 1 + 1]? =some (.cells #[.slice (some ⟨b + 1,0,none⟩) 1 1] 97 (0,0))):iF W (.slice (some ⟨b,0,none⟩) 1 1) (.slice (some ⟨b + 1 + 1,0,none⟩) 1 1) (.slice none 0 0) exP:=by
 refine qEn (qAw (x:=[64,1,1,1]) (f:=uN 4) h1) ⟨_,1,rfl,by decide,.inr ⟨_,0,rfl,hlt h3,fun i hi=> ?_⟩⟩ Rd.nil
 obtain rfl:i=0:=by
  have:i<1:=hi
  omega
 exact ⟨_,aC h3 0,qAb (qAw (x:=[0,0,10]) (f:=uN 3) h2)⟩
theorem qVa (w:World) (hT:Tab w):Calls prog 10 #[] w (aN (.bool true) w):=by
 obtain ⟨b,hzb⟩:∃ b,w.heap.size=b:=⟨_,rfl⟩
 obtain ⟨W1,hW1,hb1,H1⟩:=nb1 (W:=w) (.cells #[.int .i64 64,.int .i64 1,.int .i64 1,.int .i64 1] 76) hzb;have hz1:W1.heap.size=b + 1:=by rw [← hW1,← hzb];simp
 obtain ⟨W2,hW2,hb2,H2⟩:=nb1 (W:=W1) (.cells #[.int .i64 0,.int .i64 0,.int .i64 10] 96) hz1;have hz2:W2.heap.size=b + 1 + 1:=by rw [← hW2];simp [hz1]
 obtain ⟨W3,hW3,hb3,H3⟩:=nb1 (W:=W2) (.cells #[.slice (some ⟨b + 1,0,none⟩) 1 1] 97) hz2;have hB:Below w.heap.size w W3:=(hb1.trans (hb2.mono hb1.size)).trans (hb3.mono (Nat.le_trans hb1.size hb2.size));have hpl:=qDy (nB hb3 (nB hb2 H1)).out (nB hb3 H2).out H3.out;have e4:=qNg (.slice (some ⟨b,0,none⟩) 1 1) (.slice (some ⟨b + 1 + 1,0,none⟩) 1 1) (.slice none 0 0) (.slice none 0 0) exP [] W3 hpl (by decide) ⟨none,0,rfl,Nat.le_refl _,by decide,.inl rfl⟩ (fun r hr=> nomatch hr);have HBE:=hU e4;have HT:=hU (fun W (h:Below w.heap.size w W)=> hT.below h);have HB:=hU hB;clear e4 hpl hB hb1 hb2 hb3 H1 H2 H3 hT;go_in
 repeat' (first
  |(refine cZ (v:=.agg #[.int .i64 64,.int .i64 1,.int .i64 1,.int .i64 1]) rfl _ rfl rfl underlying50 nO.size qBs rfl (by decide) (by decide) rfl ?_;(try simp only [Value.cells]);rw [hzb,hW1];clear hW1)
  |(refine cZ (v:=.agg #[.int .i64 0,.int .i64 0,.int .i64 10]) rfl _ rfl rfl underlying97 qDt.size qFb rfl (by decide) (by decide) rfl ?_;(try simp only [Value.cells]);rw [hz1,hW2];clear hW2)
  |(refine cZ (v:=.slice (some ⟨b + 1,0,none⟩) 1 1) rfl _ rfl rfl underlying51 qEh.size qBv rfl (by decide) (by decide) rfl ?_;(try simp only [Value.cells]);rw [hz2,hW3];clear hW3)
  |go_values|go_skip|go_guarded|refine wg ?_|go_step|go_upon)
 refine HBE.out.mono ?_;rintro er Wn (⟨h,_⟩|⟨_,y,rfl,hs,_,hb⟩)
 · exact absurd qFw h
 obtain ⟨hgd,hwd⟩:=qN (l:=[]) qFw (fun r hr=> nomatch hr);have HEX:=hU qHs;obtain ⟨m0,hm0⟩:∃ m0,gE exP []=m0:=⟨_,rfl⟩
 rw [hm0] at hs hgd hwd HEX ⊢;replace HB:=nW hb HB;have HY:=hU hs;have HG:=hU (And.intro hgd hwd);have HON:=hU (nT hs);have HPL:=hU (fun W (hb:Below Wn.heap.size Wn W)=> hs.pl.below hb);clear hb hs HBE hgd hwd hm0;obtain ⟨b5,hab5,hbz5⟩:=nbz HB;obtain ⟨W5,hW5,hba5,HZ5⟩:=nb1 (W:=Wn) (.cells zSy 61) hab5;dsimp only
 repeat' (first
  |(rw [hW5,hab5];clear hW5)
  |(refine sN 61 (.agg (aS y m0)) 0 (aS y m0) dZ.size HZ5.out HON.out fun Wn hp=> ?_
    have hbb:=Below.put hba5 hp (Nat.le_of_eq hab5);replace HY:=hU (HY.out.below hbb);replace HB:=nW hbb HB;have HQ:=pA hp;clear hbb hp hba5 HZ5 HON)
  |(refine aE (t:=61) (v:=.agg (aS y m0)) rfl rfl rfl (aD dZ HQ.out rfl) ?_)
  |go_values|go_skip|go_guarded|refine wg ?_|go_step|go_upon)
 refine (HRun y m0 0 10 10 _ HY.out HG.out.1 HG.out.2 rfl (by decide) (HT.out _ HB.out)).mono ?_;rintro er Wn ⟨y2,rfl,hs,_,hb⟩;obtain ⟨m1,hm1⟩:∃ m1,jO 10 m0=m1:=⟨_,rfl⟩
 rw [hm1] at hs HEX ⊢;replace HB:=nW hb HB;replace HY:=hU hs;have HON:=hU (nT hs);clear hb hs HG HQ hm1 HPL;obtain ⟨hn1,hn2⟩:=HEX.out;have hsl:m1.seats.length=1:=by have:=congrArg List.length hn1;simpa using this
 obtain ⟨s,hs0,hs8⟩:∃ s,m1.seats[0]? =some s∧s.k.now=8:=by
  cases hh:m1.seats with
  |nil=> rw [hh] at hsl;cases hsl
  |cons s t=>
   rw [hh,List.map_cons] at hn1;injection hn1 with h1 _
   exact ⟨s,rfl,h1⟩
 obtain ⟨x,hx,hxs,hlx⟩:=HY.out.seat hs0;obtain ⟨a8,cp8,hse8,_,_⟩:=HY.out.se.1.shape;have hel:=HY.out.se.1;rw [hse8] at hel;obtain ⟨g8,off8,hga8,hgl8,hcell8⟩:=hel.elem.2.2.2 0 x hx;subst hga8;rw [show y2.ls.length=1 by rw [HY.out.len.1];exact hsl] at hse8;obtain ⟨Wr,hWr⟩:∃ Wr,Wr=Wn:=⟨_,rfl⟩
 have HC8:Hid (∀ W,Below Wr.heap.size Wr W→W.cell? ⟨g8,off8 + 7,none⟩=some (.int .u64 8)):=hU (fun W hb=> by
  rw [hWr] at hb;have:=hcell8 W hb 7 (.int .u64 x.s.k.now) rfl
  rw [hxs,hs8,Nat.zero_mul,Nat.add_zero] at this;exact this)
 have HRW:Hid (Below Wr.heap.size Wr Wn):=hU (by rw [hWr];exact Below.refl _ _);have HSE:=hU hse8;have HN2:=hU hn2;clear hn1 hn2 hsl hs0 hs8 hx hxs hlx hel hse8 hcell8 hgl8 hWr HEX;obtain ⟨b6,hab6,hbz6⟩:=nbz HB;obtain ⟨W6,hW6,hba6,HZ6⟩:=nb1 (W:=Wn) (.cells zSy 61) hab6;dsimp only
 repeat' (first
  |(rw [hW6,hab6];clear hW6)
  |(refine sN 61 (.agg (aS y2 m1)) 0 (aS y2 m1) dZ.size HZ6.out HON.out fun Wn hp=> ?_
    have hbb:=Below.put hba6 hp (Nat.le_of_eq hab6);replace HB:=nW hbb HB;have HK:=pA hp;have c8:Wn.cell? ⟨b6,8,none⟩=some (.slice (some ⟨g8,off8,none⟩) 1 cp8):=(aC HK.out 8).trans (congrArg some HSE.out);have c5:Wn.cell? ⟨b6,5,none⟩=some (.int .u64 10):=(show _=some (Value.int .u64 m1.now) from aC HK.out 5).trans (by rw [HN2.out]);have c7:=HC8.out Wn (HRW.out.trans (hbb.mono HRW.out.size));clear hbb hp hba6 HZ6 HON)
  |go_values|go_skip|go_guarded|refine wg ?_|go_step|go_upon)
 go_ret;exact cF rfl HB.out
