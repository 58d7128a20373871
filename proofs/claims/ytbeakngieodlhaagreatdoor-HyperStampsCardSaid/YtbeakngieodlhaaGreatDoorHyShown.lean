/- The example at the head of hyper's laws: it is as told. Condition: the table of the instructions' parts lies there. -/
import Derived.Test.YtbeakngieodlhaaGreatDoorGHr
import Derived.Test.YtbeakngieodlhaaGreatDoorHyBeg
import Derived.Test.YtbeakngieodlhaaGreatDoorGCard
set_option linter.unusedVariables false
set_option maxRecDepth 100000
set_option maxHeartbeats 8000000
set_option linter.unusedSimpArgs false
namespace Go.Proofs.YtbeakngieodlhaaGreatDoor
open Go.Proofs.Tryz
open Go.RowKit KR Kn RegT3
namespace Hy
def exP:Pl.Plan:=⟨[[64,1,1,1]],10,[[[0,0,10]]],[]⟩
theorem ex_ck:Pl.check exP=0:=by kernel_rfl
theorem ex_run:(mrun 10 (mbegin exP [])).seats.map (fun s=> s.k.now)=[8]∧(mrun 10 (mbegin exP [])).now=10:=⟨by kernel_rfl,by kernel_rfl⟩
theorem zeroPart:∀ W,(zeroValue 76).run prog W=.ok (.agg #[.int .i64 0,.int .i64 0,.int .i64 0,.int .i64 0]) W:=zero_of (by kernel_rfl)
theorem zeroWin:∀ W,(zeroValue 100).run prog W=.ok (.agg #[.int .i64 0,.int .i64 0,.int .i64 0]) W:=zero_of (by kernel_rfl)
theorem zeroWins:∀ W,(zeroValue 101).run prog W=.ok (.slice none 0 0) W:=zero_of (by kernel_rfl)
theorem oneWins:One prog 101:=one_of underlying101 rfl (by kernel_rfl)
theorem ex_plan {W:World} {b:Nat} (h1:W.heap[b]? =some (.cells #[.int .i64 64,.int .i64 1,.int .i64 1,.int .i64 1] 76 (0,0))) (h2:W.heap[b + 1]? =some (.cells #[.int .i64 0,.int .i64 0,.int .i64 10] 100 (0,0)))
 (h3:W.heap[b + 1 + 1]? =some (.cells #[.slice (some ⟨b + 1,0,none⟩) 1 1] 101 (0,0))):PlanR W (.slice (some ⟨b,0,none⟩) 1 1) (.slice (some ⟨b + 1 + 1,0,none⟩) 1 1) (.slice none 0 0) exP:=by
 refine plan_of (one_rd (x:=[64,1,1,1]) (f:=rowC 4) h1) ⟨_,1,rfl,by decide,.inr ⟨_,0,rfl,hlt h3,fun i hi=> ?_⟩⟩ Rd.nil
 obtain rfl:i=0:=by
  have:i<1:=hi
  omega
 exact ⟨_,hcell h3 0,rd_rows (one_rd (x:=[0,0,10]) (f:=rowC 3) h2)⟩
theorem HShown (w:World) (hT:Tab w):Calls prog 28 #[] w (Gives (.bool true) w):=by
 obtain ⟨b,hzb⟩:∃ b,w.heap.size=b:=⟨_,rfl⟩
 obtain ⟨W1,hW1,hb1,H1⟩:=nb1 (W:=w) (.cells #[.int .i64 64,.int .i64 1,.int .i64 1,.int .i64 1] 76) hzb
 have hz1:W1.heap.size=b + 1:=by rw [← hW1,← hzb];simp
 obtain ⟨W2,hW2,hb2,H2⟩:=nb1 (W:=W1) (.cells #[.int .i64 0,.int .i64 0,.int .i64 10] 100) hz1
 have hz2:W2.heap.size=b + 1 + 1:=by rw [← hW2];simp [hz1]
 obtain ⟨W3,hW3,hb3,H3⟩:=nb1 (W:=W2) (.cells #[.slice (some ⟨b + 1,0,none⟩) 1 1] 101) hz2
 have hB:Below w.heap.size w W3:=(hb1.trans (hb2.mono hb1.size)).trans (hb3.mono (Nat.le_trans hb1.size hb2.size))
 have hpl:=ex_plan (nB hb3 (nB hb2 H1)).out (nB hb3 H2).out H3.out
 have e4:=HBegin (.slice (some ⟨b,0,none⟩) 1 1) (.slice (some ⟨b + 1 + 1,0,none⟩) 1 1) (.slice none 0 0) (.slice none 0 0) exP [] W3 hpl (by decide) ⟨none,0,rfl,Nat.le_refl _,by decide,.inl rfl⟩ (fun r hr=> nomatch hr)
 have HBE:=hU e4
 have HT:=hU (fun W (h:Below w.heap.size w W)=> hT.below h)
 have HB:=hU hB
 clear e4 hpl hB hb1 hb2 hb3 H1 H2 H3 hT
 go_in
 repeat' (first
  |(refine wpList_buildSlice_one (v:=.agg #[.int .i64 64,.int .i64 1,.int .i64 1,.int .i64 1]) rfl _ rfl rfl underlying50 aggPart.size zeroPart rfl (by decide) (by decide) rfl ?_;(try simp only [Value.cells]);rw [hzb,hW1];clear hW1)
  |(refine wpList_buildSlice_one (v:=.agg #[.int .i64 0,.int .i64 0,.int .i64 10]) rfl _ rfl rfl underlying101 aggWin.size zeroWin rfl (by decide) (by decide) rfl ?_;(try simp only [Value.cells]);rw [hz1,hW2];clear hW2)
  |(refine wpList_buildSlice_one (v:=.slice (some ⟨b + 1,0,none⟩) 1 1) rfl _ rfl rfl underlying51 oneWins.size zeroWins rfl (by decide) (by decide) rfl ?_;(try simp only [Value.cells]);rw [hz2,hW3];clear hW3)
  |go_values|go_skip|go_guarded|refine wg ?_|go_step|go_upon)
 refine HBE.out.mono ?_
 rintro er Wn (⟨h,_⟩|⟨_,y,rfl,hs,_,hb⟩)
 · exact absurd ex_ck h
 obtain ⟨hgd,hwd⟩:=mbegin_good (l:=[]) ex_ck (fun r hr=> nomatch hr)
 have HEX:=hU ex_run
 obtain ⟨m0,hm0⟩:∃ m0,mbegin exP []=m0:=⟨_,rfl⟩
 rw [hm0] at hs hgd hwd HEX ⊢
 replace HB:=nW hb HB
 have HY:=hU hs
 have HG:=hU (And.intro hgd hwd)
 have HON:=hU (onesY hs)
 have HPL:=hU (fun W (hb:Below Wn.heap.size Wn W)=> hs.pl.below hb)
 clear hb hs HBE hgd hwd hm0
 obtain ⟨b5,hab5,hbz5⟩:=nbz HB
 obtain ⟨W5,hW5,hba5,HZ5⟩:=nb1 (W:=Wn) (.cells zSy 61) hab5
 dsimp only
 repeat' (first
  |(rw [hW5,hab5];clear hW5)
  |(refine sN 61 (.agg (ycells y m0)) 0 (ycells y m0) aggSys.size HZ5.out HON.out fun Wn hp=> ?_
    have hbb:=Below.put hba5 hp (Nat.le_of_eq hab5)
    replace HY:=hU (HY.out.below hbb)
    replace HB:=nW hbb HB
    have HQ:=pA hp
    clear hbb hp hba5 HZ5 HON)
  |(refine wpList_load (t:=61) (v:=.agg (ycells y m0)) rfl rfl rfl (run_load_whole aggSys HQ.out rfl) ?_)
  |go_values|go_skip|go_guarded|refine wg ?_|go_step|go_upon)
 refine (HRun y m0 0 10 10 _ HY.out HG.out.1 HG.out.2 rfl (by decide) (HT.out _ HB.out)).mono ?_
 rintro er Wn ⟨y2,rfl,hs,_,hb⟩
 obtain ⟨m1,hm1⟩:∃ m1,mrun 10 m0=m1:=⟨_,rfl⟩
 rw [hm1] at hs HEX ⊢
 replace HB:=nW hb HB
 replace HY:=hU hs
 have HON:=hU (onesY hs)
 clear hb hs HG HQ hm1 HPL
 obtain ⟨hn1,hn2⟩:=HEX.out
 have hsl:m1.seats.length=1:=by have:=congrArg List.length hn1;simpa using this
 obtain ⟨s,hs0,hs8⟩:∃ s,m1.seats[0]? =some s∧s.k.now=8:=by
  cases hh:m1.seats with
  |nil=> rw [hh] at hsl;cases hsl
  |cons s t=>
   rw [hh,List.map_cons] at hn1
   injection hn1 with h1 _
   exact ⟨s,rfl,h1⟩
 obtain ⟨x,hx,hxs,hlx⟩:=HY.out.seat hs0
 obtain ⟨a8,cp8,hse8,_,_⟩:=HY.out.se.1.shape
 have hel:=HY.out.se.1
 rw [hse8] at hel
 obtain ⟨g8,off8,hga8,hgl8,hcell8⟩:=hel.elem.2.2.2 0 x hx
 subst hga8
 rw [show y2.ls.length=1 by rw [HY.out.len.1];exact hsl] at hse8
 obtain ⟨Wr,hWr⟩:∃ Wr,Wr=Wn:=⟨_,rfl⟩
 have HC8:Hid (∀ W,Below Wr.heap.size Wr W→W.cell? ⟨g8,off8 + 7,none⟩=some (.int .u64 8)):=hU (fun W hb=> by
  rw [hWr] at hb
  have:=hcell8 W hb 7 (.int .u64 x.s.k.now) rfl
  rw [hxs,hs8,Nat.zero_mul,Nat.add_zero] at this
  exact this)
 have HRW:Hid (Below Wr.heap.size Wr Wn):=hU (by rw [hWr];exact Below.refl _ _)
 have HSE:=hU hse8
 have HN2:=hU hn2
 clear hn1 hn2 hsl hs0 hs8 hx hxs hlx hel hse8 hcell8 hgl8 hWr HEX
 obtain ⟨b6,hab6,hbz6⟩:=nbz HB
 obtain ⟨W6,hW6,hba6,HZ6⟩:=nb1 (W:=Wn) (.cells zSy 61) hab6
 dsimp only
 repeat' (first
  |(rw [hW6,hab6];clear hW6)
  |(refine sN 61 (.agg (ycells y2 m1)) 0 (ycells y2 m1) aggSys.size HZ6.out HON.out fun Wn hp=> ?_
    have hbb:=Below.put hba6 hp (Nat.le_of_eq hab6)
    replace HB:=nW hbb HB
    have HK:=pA hp
    have c8:Wn.cell? ⟨b6,8,none⟩=some (.slice (some ⟨g8,off8,none⟩) 1 cp8):=(hcell HK.out 8).trans (congrArg some HSE.out)
    have c5:Wn.cell? ⟨b6,5,none⟩=some (.int .u64 10):=(show _=some (Value.int .u64 m1.now) from hcell HK.out 5).trans (by rw [HN2.out])
    have c7:=HC8.out Wn (HRW.out.trans (hbb.mono HRW.out.size))
    clear hbb hp hba6 HZ6 HON)
  |go_values|go_skip|go_guarded|refine wg ?_|go_step|go_upon)
 go_ret
 exact gives_of rfl HB.out
end Hy
end Go.Proofs.YtbeakngieodlhaaGreatDoor
