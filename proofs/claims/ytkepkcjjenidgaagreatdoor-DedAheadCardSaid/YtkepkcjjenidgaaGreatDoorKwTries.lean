/- work.tries: a process's call is tried. Conditions: as many as Go can hold; the process is there. -/
import Derived.Test.YtkepkcjjenidgaaGreatDoorGFit
import Derived.Test.YtkepkcjjenidgaaGreatDoorGTab
import Derived.Test.YtkepkcjjenidgaaGreatDoorGEnd
set_option linter.unusedVariables false
set_option maxRecDepth 100000
set_option maxHeartbeats 8000000
set_option linter.unusedSimpArgs false
namespace Go.Proofs.YtkepkcjjenidgaaGreatDoor
open Go.RowKit KR RegT3
namespace Kn
theorem WTries (b:Nat) (k:Kern) (pid:Int) (p:Proc) (x:Call) (w:World) (hk:WorkAt w b k) (hf:Fit k) (hx:CFit x) (hp:find k.p pid=some p) (hn2:(tried k p x).k.p.length≤1000000) (ht2:(tried k p x).k.trace.length≤1000000) (he0:0≤(tried k p x).e) (he1:(tried k p x).e<100):
 Calls Tryz.prog 126 #[.pointer (some ⟨b,0,none⟩),.int .i64 pid,.agg x.cells] w (GivesW b (.bool (triesB k pid x)) (tries k pid x) w):=by
 obtain ⟨y,bs,hk0,hl⟩:=hk
 have hbl:=hlt hk0
 obtain ⟨hpm,hpp⟩:p ∈ k.p∧p.pid=pid:=⟨List.mem_of_find?_eq_some hp,by have:=List.find?_some hp;simpa using this⟩
 have hway:=tried_way b hf (hf.mem p hpm) hx
 have hF:=fun W h=> TFind y.p k.p pid W h
 rw [hp] at hF
 have HF:Hid (∀ W,SlP W y.p k.p→Calls Tryz.prog 123 #[y.p,.int .i64 pid] W (Gives (.tuple #[.agg p.cells,.bool true]) W)):=hU hF
 clear hF
 have HT1:Hid (triesB k pid x= !((tried k p x).e==6 && !(x.n==16))):=hU (by rw [triesB,hp];rfl)
 have HT2:Hid (tries k pid x=if triesB k pid x=true then answer (tried k p x).k ((find (tried k p x).k.p pid).getD Proc.zero) x (tried k p x).v (tried k p x).e else (tried k p x).k):=hU (by rw [tries,hp];rfl)
 clear hp hpm hf hx
 obtain ⟨W0,hW0,HK_0,HX_0,HE_0,HL_0,hz0,hzK,hzX⟩:=st1 x.cells 165 hk0 hl
 have kP0:W0.cell? ⟨b,0,none⟩=some y.p:=hcell HK_0.out 0
 rcases hway with ⟨f,hw,hen,hcl⟩|⟨hw,ht⟩
 · obtain ⟨r,hr⟩:∃ r,tried k p x=r:=⟨_,rfl⟩
   rw [hr] at HT1 HT2 hcl hn2 ht2 he0 he1
   clear hr
   have HEN:=hU hen
   have HCL:=hU hcl
   clear hen hcl
   go_enter Tryz.func126,Tryz.ntmps126
   repeat' (first
    |(rw [hW0];clear hW0)
    |go_values|go_skip|go_guarded|(with_reducible refine wg ?_)|go_step|go_upon)
   refine (HF.out _ HL_0.out.p).mono ?_
   rintro er W1 ⟨rfl,hb⟩
   have HK_1:=nB hb HK_0
   have HX_1:=nB hb HX_0
   have HE_1:=nE hb HE_0
   have HL_1:=nL hb HL_0
   clear HK_0 HX_0 HE_0 HL_0
   clear hb kP0
   dsimp only
   obtain ⟨abP,hab,hab1P⟩:=nb0 HE_1
   have habKP:=nlt HK_1 hab
   have habXP:=nlt HX_1 hab
   have hoffP:=HL_1.out.p.offNew (Nat.le_of_eq hab)
   obtain ⟨W2,hWn,hba,HP_2⟩:=nb1 (.cells #[.int .i64 0,.int .i64 0,.int .i64 0,.int .u32 0,.int .u32 0,.int .u32 0,.int .u32 0,.int .u32 0,.int .u32 0,.int .u32 0,.int .u32 0,.int .u32 0,.string ⟨#[]⟩,.int .i64 0,.int .i64 0,.bool false,.int .i64 0,.bool false,.int .i64 0,.bool false,.int .i64 0,.bool false,.int .u32 0,.int .u32 0,.int .u32 0,.int .u32 0] 167) hab
   have HK_2:=nB hba HK_1
   have HX_2:=nB hba HX_1
   have HE_2:=nE hba HE_1
   have HL_2:=nL hba HL_1
   clear HK_1 HX_1 HE_1 HL_1
   clear hba
   repeat' (first
    |(rw [hWn,hab];clear hWn hab)
    |(refine wpList_store (t:=167) (v:=.agg p.cells) (off:=0) (new:=p.cells) rfl rfl rfl rfl aggProc.size HP_2.out rfl (show 0 + 26≤26 by decide) (onesProc p) rfl ?_;intro W3 hp
      have HE_3:=pE hp HE_2
      have HL_3:Hid (LayAt W3 y bs k):=hU (HL_2.out.putProc (HL_2.out.p.putOff hoffP hp) HP_2.out hp)
      have HP_3:=pA hp
      have HK_3:=pT hp HP_2 HK_2
      have HX_3:=pT hp HP_2 HX_2
      clear hp
      clear HK_2 HX_2 HP_2 HE_2 HL_2
      have kXn:W3.cell? ⟨w.heap.size,0,none⟩=some (.int .u32 x.n):=hcell HX_3.out 0)
    |go_values|go_skip|go_guarded|(with_reducible refine wg ?_)|go_step|go_upon)
   try clear hWn hab
   refine (TriedF x.n _).mono ?_
   rintro er W4 ⟨rfl,hb⟩
   have HK_4:=nB hb HK_3
   have HX_4:=nB hb HX_3
   have HP_4:=nB hb HP_3
   have HE_4:=nE hb HE_3
   have HL_4:=nL hb HL_3
   clear HK_3 HX_3 HP_3 HE_3 HL_3
   clear hb kXn
   dsimp only
   rw [hw]
   clear hw
   dsimp only
   obtain ⟨abT,hab,hab1T⟩:=nb0 HE_4
   have habKT:=nlt HK_4 hab
   have habXT:=nlt HX_4 hab
   have habPT:=nlt HP_4 hab
   obtain ⟨W5,hWn,hba,HT_5⟩:=nb1 (.cells #[.nilFunc] 243) hab
   have HK_5:=nB hba HK_4
   have HX_5:=nB hba HX_4
   have HP_5:=nB hba HP_4
   have HE_5:=nE hba HE_4
   have HL_5:=nL hba HL_4
   clear HK_4 HX_4 HP_4 HE_4 HL_4
   clear hba
   repeat' (first
    |(rw [hWn,hab];clear hWn hab)
    |(refine wpList_store (t:=243) (v:=.agg #[(.func (.func f) #[] #[])]) (off:=0) (new:=#[(.func (.func f) #[] #[])]) rfl rfl rfl rfl aggWay.size HT_5.out rfl (show 0 + 1≤1 by decide) (by intro u hu;simp [Value.cells] at hu;subst hu;rfl) rfl ?_;intro W6 hp
      have HE_6:=pE hp HE_5
      have HL_6:Hid (LayAt W6 y bs k):=hU (hl.kept hk0 noWork HE_6.out)
      have HT_6:=pA hp
      have HK_6:=pT hp HT_5 HK_5
      have HX_6:=pT hp HT_5 HX_5
      have HP_6:=pT hp HT_5 HP_5
      clear hp
      clear HK_5 HX_5 HP_5 HT_5 HE_5 HL_5
      have kT:W6.cell? ⟨abT,0,none⟩=some (.func (.func f) #[] #[]):=hcell HT_6.out 0)
    |(refine wpList_load (t:=167) (v:=.agg p.cells) rfl rfl rfl (run_load_whole aggProc HP_6.out rfl) ?_)
    |(refine wpList_load (t:=165) (v:=.agg x.cells) rfl rfl rfl (run_load_whole aggCall HX_6.out rfl) ?_)
    |go_values|go_skip|go_guarded|(with_reducible refine wg ?_)|go_step|go_upon)
   try clear hWn hab
   rw [HEN.out,Oper.upon_enter]
   refine (HCL.out _ ⟨_,_,HK_6.out,HL_6.out⟩).mono ?_
   rintro er W7 ⟨hret,⟨y7,bs7,hkk,hll⟩,hke⟩
   have HX_7:=mB hke HX_6
   have HP_7:=mB hke HP_6
   have HT_7:=mB hke HT_6
   have HK_7:=hU hkk
   have HE_7:=mE hke HE_6
   have HL_7:=hU hll
   clear hkk hll hke
   clear HK_6 HX_6 HP_6 HT_6 HE_6 HL_6
   subst hret
   clear kT
   dsimp only
   cases h6:(r.e==6)
   · skip
     have hB:triesB k pid x=true:=by first|(rw [HT1.out];rfl)|(rw [HT1.out,h6];first|rfl|(rw [h16];rfl))
     have HB1:Hid (triesB k pid x=true):=hU hB
     have hA:=HT2.out
     rw [if_pos hB] at hA
     have HA:=hU hA
     clear HT2 hB hA
     have kXn:W7.cell? ⟨w.heap.size,0,none⟩=some (.int .u32 x.n):=hcell HX_7.out 0
     have kP8:W7.cell? ⟨b,0,none⟩=some y7.p:=hcell HK_7.out 0
     repeat' (first
      |go_values|go_skip|go_guarded|(with_reducible refine wg ?_)|go_step|go_upon)
     refine (TFind y7.p r.k.p pid _ HL_7.out.p).mono ?_
     rintro er W8 ⟨rfl,hb⟩
     have HK_8:=nB hb HK_7
     have HX_8:=nB hb HX_7
     have HP_8:=nB hb HP_7
     have HT_8:=nB hb HT_7
     have HE_8:=nE hb HE_7
     have HL_8:=nL hb HL_7
     clear HK_7 HX_7 HP_7 HT_7 HE_7 HL_7
     clear hb kP8 kXn
     dsimp only
     have hpp2:((find r.k.p pid).getD Proc.zero)=(find r.k.p p.pid).getD Proc.zero:=by rw [hpp]
     have hA:=HA.out
     clear HA
     obtain ⟨p2,hp2⟩:∃ p2,((find r.k.p pid).getD Proc.zero)=p2:=⟨_,rfl⟩
     rw [hp2] at hpp2 hA
     rw [hp2]
     have HPP:=hU hpp2
     have HA:=hU hA
     clear hp2 hpp2 hA
     repeat' (first
      |(refine wpList_store (t:=167) (v:=.agg p2.cells) (off:=0) (new:=p2.cells) rfl rfl rfl rfl aggProc.size HP_8.out rfl (show 0 + 26≤26 by decide) (onesProc p2) rfl ?_;intro W9 hp
        have HE_9:=pE hp HE_8
        have HL_9:Hid (LayAt W9 y7 bs7 r.k):=hU (HL_8.out.putProc (SlP.refind HL_8.out.p HP_8.out (by rw [← HPP.out];exact hp)) HP_8.out hp)
        have HP_9:=pA hp
        have HK_9:=pT hp HP_8 HK_8
        have HX_9:=pT hp HP_8 HX_8
        have HT_9:=pT hp HP_8 HT_8
        clear hp
        clear HK_8 HX_8 HP_8 HT_8 HE_8 HL_8)
      |(refine wpList_load (t:=167) (v:=.agg p2.cells) rfl rfl rfl (run_load_whole aggProc HP_9.out rfl) ?_)
      |(refine wpList_load (t:=165) (v:=.agg x.cells) rfl rfl rfl (run_load_whole aggCall HX_9.out rfl) ?_)
      |go_values|go_skip|go_guarded|(with_reducible refine wg ?_)|go_step|go_upon)
     refine (WAnswer b r.k p2 x r.v r.e _ ⟨_,_,HK_9.out,HL_9.out⟩ he0 he1 hn2 ht2).mono ?_
     rintro er W10 ⟨hret,⟨y10,bs10,hkk,hll⟩,hke⟩
     have HX_10:=mB hke HX_9
     have HP_10:=mB hke HP_9
     have HT_10:=mB hke HT_9
     have HK_10:=hU hkk
     have HE_10:=mE hke HE_9
     have HL_10:=hU hll
     clear hkk hll hke
     clear HK_9 HX_9 HP_9 HT_9 HE_9 HL_9
     obtain ⟨er2,rfl⟩:=hret
     dsimp only
     repeat' (first|go_values|go_skip|go_guarded|(with_reducible refine wg ?_)|go_step|go_upon)
     go_ret
     rw [HB1.out,HA.out]
     exact ⟨rfl,⟨_,_,HK_10.out,HL_10.out⟩,HE_10.out⟩
   cases h16:(x.n==16)
   · have hB:triesB k pid x=false:=by rw [HT1.out,h6,h16];rfl
     have HB1:Hid (triesB k pid x=false):=hU hB
     have hA:=HT2.out
     rw [if_neg (by rw [hB];simp)] at hA
     have HA:=hU hA
     clear HT2 hB hA
     have hn16:(x.n !=16)=true:=by simp [bne,h16]
     have kXn:W7.cell? ⟨w.heap.size,0,none⟩=some (.int .u32 x.n):=hcell HX_7.out 0
     repeat' (first
      |go_values|go_skip|go_guarded|(with_reducible refine wg ?_)|go_step|go_upon)
     go_ret
     rw [HB1.out,HA.out]
     exact ⟨rfl,⟨_,_,HK_7.out,HL_7.out⟩,HE_7.out⟩
   have hn16:(x.n !=16)=false:=by simp [bne,h16]
   have hB:triesB k pid x=true:=by first|(rw [HT1.out];rfl)|(rw [HT1.out,h6];first|rfl|(rw [h16];rfl))
   have HB1:Hid (triesB k pid x=true):=hU hB
   have hA:=HT2.out
   rw [if_pos hB] at hA
   have HA:=hU hA
   clear HT2 hB hA
   have kXn:W7.cell? ⟨w.heap.size,0,none⟩=some (.int .u32 x.n):=hcell HX_7.out 0
   have kP8:W7.cell? ⟨b,0,none⟩=some y7.p:=hcell HK_7.out 0
   repeat' (first
    |go_values|go_skip|go_guarded|(with_reducible refine wg ?_)|go_step|go_upon)
   refine (TFind y7.p r.k.p pid _ HL_7.out.p).mono ?_
   rintro er W8 ⟨rfl,hb⟩
   have HK_8:=nB hb HK_7
   have HX_8:=nB hb HX_7
   have HP_8:=nB hb HP_7
   have HT_8:=nB hb HT_7
   have HE_8:=nE hb HE_7
   have HL_8:=nL hb HL_7
   clear HK_7 HX_7 HP_7 HT_7 HE_7 HL_7
   clear hb kP8 kXn
   dsimp only
   have hpp2:((find r.k.p pid).getD Proc.zero)=(find r.k.p p.pid).getD Proc.zero:=by rw [hpp]
   have hA:=HA.out
   clear HA
   obtain ⟨p2,hp2⟩:∃ p2,((find r.k.p pid).getD Proc.zero)=p2:=⟨_,rfl⟩
   rw [hp2] at hpp2 hA
   rw [hp2]
   have HPP:=hU hpp2
   have HA:=hU hA
   clear hp2 hpp2 hA
   repeat' (first
    |(refine wpList_store (t:=167) (v:=.agg p2.cells) (off:=0) (new:=p2.cells) rfl rfl rfl rfl aggProc.size HP_8.out rfl (show 0 + 26≤26 by decide) (onesProc p2) rfl ?_;intro W9 hp
      have HE_9:=pE hp HE_8
      have HL_9:Hid (LayAt W9 y7 bs7 r.k):=hU (HL_8.out.putProc (SlP.refind HL_8.out.p HP_8.out (by rw [← HPP.out];exact hp)) HP_8.out hp)
      have HP_9:=pA hp
      have HK_9:=pT hp HP_8 HK_8
      have HX_9:=pT hp HP_8 HX_8
      have HT_9:=pT hp HP_8 HT_8
      clear hp
      clear HK_8 HX_8 HP_8 HT_8 HE_8 HL_8)
    |(refine wpList_load (t:=167) (v:=.agg p2.cells) rfl rfl rfl (run_load_whole aggProc HP_9.out rfl) ?_)
    |(refine wpList_load (t:=165) (v:=.agg x.cells) rfl rfl rfl (run_load_whole aggCall HX_9.out rfl) ?_)
    |go_values|go_skip|go_guarded|(with_reducible refine wg ?_)|go_step|go_upon)
   refine (WAnswer b r.k p2 x r.v r.e _ ⟨_,_,HK_9.out,HL_9.out⟩ he0 he1 hn2 ht2).mono ?_
   rintro er W10 ⟨hret,⟨y10,bs10,hkk,hll⟩,hke⟩
   have HX_10:=mB hke HX_9
   have HP_10:=mB hke HP_9
   have HT_10:=mB hke HT_9
   have HK_10:=hU hkk
   have HE_10:=mE hke HE_9
   have HL_10:=hU hll
   clear hkk hll hke
   clear HK_9 HX_9 HP_9 HT_9 HE_9 HL_9
   obtain ⟨er2,rfl⟩:=hret
   dsimp only
   repeat' (first|go_values|go_skip|go_guarded|(with_reducible refine wg ?_)|go_step|go_upon)
   go_ret
   rw [HB1.out,HA.out]
   exact ⟨rfl,⟨_,_,HK_10.out,HL_10.out⟩,HE_10.out⟩
 rw [ht] at HT1 HT2 hn2 ht2 he0 he1
 dsimp only at HT1 HT2 hn2 ht2 he0 he1
 go_enter Tryz.func126,Tryz.ntmps126
 repeat' (first
  |(rw [hW0];clear hW0)
  |go_values|go_skip|go_guarded|(with_reducible refine wg ?_)|go_step|go_upon)
 refine (HF.out _ HL_0.out.p).mono ?_
 rintro er W1 ⟨rfl,hb⟩
 have HK_1:=nB hb HK_0
 have HX_1:=nB hb HX_0
 have HE_1:=nE hb HE_0
 have HL_1:=nL hb HL_0
 clear HK_0 HX_0 HE_0 HL_0
 clear hb kP0
 dsimp only
 obtain ⟨abP,hab,hab1P⟩:=nb0 HE_1
 have habKP:=nlt HK_1 hab
 have habXP:=nlt HX_1 hab
 have hoffP:=HL_1.out.p.offNew (Nat.le_of_eq hab)
 obtain ⟨W2,hWn,hba,HP_2⟩:=nb1 (.cells #[.int .i64 0,.int .i64 0,.int .i64 0,.int .u32 0,.int .u32 0,.int .u32 0,.int .u32 0,.int .u32 0,.int .u32 0,.int .u32 0,.int .u32 0,.int .u32 0,.string ⟨#[]⟩,.int .i64 0,.int .i64 0,.bool false,.int .i64 0,.bool false,.int .i64 0,.bool false,.int .i64 0,.bool false,.int .u32 0,.int .u32 0,.int .u32 0,.int .u32 0] 167) hab
 have HK_2:=nB hba HK_1
 have HX_2:=nB hba HX_1
 have HE_2:=nE hba HE_1
 have HL_2:=nL hba HL_1
 clear HK_1 HX_1 HE_1 HL_1
 clear hba
 repeat' (first
  |(rw [hWn,hab];clear hWn hab)
  |(refine wpList_store (t:=167) (v:=.agg p.cells) (off:=0) (new:=p.cells) rfl rfl rfl rfl aggProc.size HP_2.out rfl (show 0 + 26≤26 by decide) (onesProc p) rfl ?_;intro W3 hp
    have HE_3:=pE hp HE_2
    have HL_3:Hid (LayAt W3 y bs k):=hU (HL_2.out.putProc (HL_2.out.p.putOff hoffP hp) HP_2.out hp)
    have HP_3:=pA hp
    have HK_3:=pT hp HP_2 HK_2
    have HX_3:=pT hp HP_2 HX_2
    clear hp
    clear HK_2 HX_2 HP_2 HE_2 HL_2
    have kXn:W3.cell? ⟨w.heap.size,0,none⟩=some (.int .u32 x.n):=hcell HX_3.out 0)
  |go_values|go_skip|go_guarded|(with_reducible refine wg ?_)|go_step|go_upon)
 try clear hWn hab
 refine (TriedF x.n _).mono ?_
 rintro er W4 ⟨rfl,hb⟩
 have HK_4:=nB hb HK_3
 have HX_4:=nB hb HX_3
 have HP_4:=nB hb HP_3
 have HE_4:=nE hb HE_3
 have HL_4:=nL hb HL_3
 clear HK_3 HX_3 HP_3 HE_3 HL_3
 clear hb kXn
 dsimp only
 rw [hw]
 clear hw
 dsimp only
 obtain ⟨abT,hab,hab1T⟩:=nb0 HE_4
 have habKT:=nlt HK_4 hab
 have habXT:=nlt HX_4 hab
 have habPT:=nlt HP_4 hab
 obtain ⟨W5,hWn,hba,HT_5⟩:=nb1 (.cells #[.nilFunc] 243) hab
 have HK_5:=nB hba HK_4
 have HX_5:=nB hba HX_4
 have HP_5:=nB hba HP_4
 have HE_5:=nE hba HE_4
 have HL_5:=nL hba HL_4
 clear HK_4 HX_4 HP_4 HE_4 HL_4
 clear hba
 repeat' (first
  |(rw [hWn,hab];clear hWn hab)
  |(refine wpList_store (t:=243) (v:=.agg #[.nilFunc]) (off:=0) (new:=#[.nilFunc]) rfl rfl rfl rfl aggWay.size HT_5.out rfl (show 0 + 1≤1 by decide) (by intro u hu;simp [Value.cells] at hu;subst hu;rfl) rfl ?_;intro W6 hp
    have HE_6:=pE hp HE_5
    have HL_6:Hid (LayAt W6 y bs k):=hU (hl.kept hk0 noWork HE_6.out)
    have HT_6:=pA hp
    have HK_6:=pT hp HT_5 HK_5
    have HX_6:=pT hp HT_5 HX_5
    have HP_6:=pT hp HT_5 HP_5
    clear hp
    clear HK_5 HX_5 HP_5 HT_5 HE_5 HL_5)
  |go_values|go_skip|go_guarded|(with_reducible refine wg ?_)|go_step|go_upon)
 try clear hWn hab
 have hB:triesB k pid x=true:=by first|(rw [HT1.out];rfl)|(rw [HT1.out,h6];first|rfl|(rw [h16];rfl))
 have HB1:Hid (triesB k pid x=true):=hU hB
 have hA:=HT2.out
 rw [if_pos hB] at hA
 have HA:=hU hA
 clear HT2 hB hA
 have kXn:W6.cell? ⟨w.heap.size,0,none⟩=some (.int .u32 x.n):=hcell HX_6.out 0
 have kP8:W6.cell? ⟨b,0,none⟩=some y.p:=hcell HK_6.out 0
 repeat' (first
  |(rw [kP8];go_simp)
  |go_values|go_skip|go_guarded|(with_reducible refine wg ?_)|go_step|go_upon)
 refine (TFind y.p k.p pid _ HL_6.out.p).mono ?_
 rintro er W7 ⟨rfl,hb⟩
 have HK_7:=nB hb HK_6
 have HX_7:=nB hb HX_6
 have HP_7:=nB hb HP_6
 have HT_7:=nB hb HT_6
 have HE_7:=nE hb HE_6
 have HL_7:=nL hb HL_6
 clear HK_6 HX_6 HP_6 HT_6 HE_6 HL_6
 clear hb kP8 kXn
 dsimp only
 have hpp2:((find k.p pid).getD Proc.zero)=(find k.p p.pid).getD Proc.zero:=by rw [hpp]
 have hA:=HA.out
 clear HA
 obtain ⟨p2,hp2⟩:∃ p2,((find k.p pid).getD Proc.zero)=p2:=⟨_,rfl⟩
 rw [hp2] at hpp2 hA
 rw [hp2]
 have HPP:=hU hpp2
 have HA:=hU hA
 clear hp2 hpp2 hA
 repeat' (first
  |(refine wpList_store (t:=167) (v:=.agg p2.cells) (off:=0) (new:=p2.cells) rfl rfl rfl rfl aggProc.size HP_7.out rfl (show 0 + 26≤26 by decide) (onesProc p2) rfl ?_;intro W8 hp
    have HE_8:=pE hp HE_7
    have HL_8:Hid (LayAt W8 y bs k):=hU (HL_7.out.putProc (SlP.refind HL_7.out.p HP_7.out (by rw [← HPP.out];exact hp)) HP_7.out hp)
    have HP_8:=pA hp
    have HK_8:=pT hp HP_7 HK_7
    have HX_8:=pT hp HP_7 HX_7
    have HT_8:=pT hp HP_7 HT_7
    clear hp
    clear HK_7 HX_7 HP_7 HT_7 HE_7 HL_7)
  |(refine wpList_load (t:=167) (v:=.agg p2.cells) rfl rfl rfl (run_load_whole aggProc HP_8.out rfl) ?_)
  |(refine wpList_load (t:=165) (v:=.agg x.cells) rfl rfl rfl (run_load_whole aggCall HX_8.out rfl) ?_)
  |go_values|go_skip|go_guarded|(with_reducible refine wg ?_)|go_step|go_upon)
 refine (WAnswer b k p2 x 0 1 _ ⟨_,_,HK_8.out,HL_8.out⟩ he0 he1 hn2 ht2).mono ?_
 rintro er W9 ⟨hret,⟨y9,bs9,hkk,hll⟩,hke⟩
 have HX_9:=mB hke HX_8
 have HP_9:=mB hke HP_8
 have HT_9:=mB hke HT_8
 have HK_9:=hU hkk
 have HE_9:=mE hke HE_8
 have HL_9:=hU hll
 clear hkk hll hke
 clear HK_8 HX_8 HP_8 HT_8 HE_8 HL_8
 obtain ⟨er2,rfl⟩:=hret
 dsimp only
 repeat' (first|go_values|go_skip|go_guarded|(with_reducible refine wg ?_)|go_step|go_upon)
 go_ret
 rw [HB1.out,HA.out]
 exact ⟨rfl,⟨_,_,HK_9.out,HL_9.out⟩,HE_9.out⟩
end Kn
end Go.Proofs.YtkepkcjjenidgaaGreatDoor
