/- kern.pipes. Conditions: as many as Go can hold. kern.wait. Conditions: as many as Go can hold. kern.tried: which function tries a call. No condition. what tried hands on: its own functions, and which one. Condition: a word's number. -/
import Derived.Test.YtkepkcjjenidgaaGreatDoorGWork
import Derived.Test.YtkepkcjjenidgaaGreatDoorGPipe
import Derived.Test.YtkepkcjjenidgaaGreatDoorGTab
import Derived.Test.YtkepkcjjenidgaaGreatDoorGTabF
import Derived.Test.YtkepkcjjenidgaaGreatDoorGSeg
set_option linter.unusedVariables false
set_option maxRecDepth 100000
set_option maxHeartbeats 8000000
set_option linter.unusedSimpArgs false
namespace Go.Proofs.YtkepkcjjenidgaaGreatDoor
open Go.RowKit KR RegT3
namespace Kn
def Proc.fds (p:Proc):Array Value:=fdCells p.d0 p.e0 p.d1 p.e1 p.d2 p.e2 p.d3 p.e3
theorem onesFd (p:Proc):∀ u ∈ (Value.agg p.fds).cells.toList,u.oneCell'=true:=
 List.all_eq_true.1 (show ((Value.agg p.fds).cells.toList.all (·.oneCell'))=true from rfl)
def Proc.withFds (p q:Proc):Proc:={p with d0:=q.d0,e0:=q.e0,d1:=q.d1,e1:=q.e1,d2:=q.d2,e2:=q.e2,d3:=q.d3,e3:=q.e3}
theorem withFds_setFd (p:Proc) (a:Nat) (d:Int) (e:Bool):p.withFds (setFd p a d e)=setFd p a d e:=by
 unfold setFd Proc.withFds
 split <;> rfl
theorem withFds_setFd2 (p:Proc) (a b:Nat) (d d':Int) (e e':Bool):p.withFds (setFd (setFd p a d e) b d' e')=setFd (setFd p a d e) b d' e':=by
 unfold setFd Proc.withFds
 split <;> split <;> rfl
theorem PSet_none (p:Proc) (d:Int) (e:Bool) (w:World) (h:freeFd p=none):Calls Tryz.prog 230 #[.agg p.fds,.agg #[.int .i64 d,.bool e]] w (Gives (.tuple #[.agg p.fds,.int .i64 0,.int .i64 5]) w):=by
 have hs:=PSet p.d0 p.e0 p.d1 p.e1 p.d2 p.e2 p.d3 p.e3 d e w
 have he:fdSet p.d0 p.e0 p.d1 p.e1 p.d2 p.e2 p.d3 p.e3 d e=(p.fds,0,5):=by
  unfold freeFd at h
  unfold fdSet Proc.fds
  by_cases h0:p.d0=0
  · rw [if_pos h0] at h;cases h
  by_cases h1:p.d1=0
  · rw [if_neg h0,if_pos h1] at h;cases h
  by_cases h2:p.d2=0
  · rw [if_neg h0,if_neg h1,if_pos h2] at h;cases h
  by_cases h3:p.d3=0
  · rw [if_neg h0,if_neg h1,if_neg h2,if_pos h3] at h;cases h
  rw [if_neg h0,if_neg h1,if_neg h2,if_neg h3]
 rw [he] at hs
 exact hs
theorem PSet_some (p:Proc) (a:Nat) (d:Int) (e:Bool) (w:World) (h:freeFd p=some a):Calls Tryz.prog 230 #[.agg p.fds,.agg #[.int .i64 d,.bool e]] w (Gives (.tuple #[.agg (setFd p a d e).fds,.int .i64 (a:Int),.int .i64 0]) w):=by
 have hs:=PSet p.d0 p.e0 p.d1 p.e1 p.d2 p.e2 p.d3 p.e3 d e w
 have he:fdSet p.d0 p.e0 p.d1 p.e1 p.d2 p.e2 p.d3 p.e3 d e=((setFd p a d e).fds,(a:Int),0):=by
  unfold freeFd at h
  unfold fdSet
  by_cases h0:p.d0=0
  · rw [if_pos h0] at h;injection h with h;subst h;rw [if_pos h0];rfl
  by_cases h1:p.d1=0
  · rw [if_neg h0,if_pos h1] at h;injection h with h;subst h;rw [if_neg h0,if_pos h1];rfl
  by_cases h2:p.d2=0
  · rw [if_neg h0,if_neg h1,if_pos h2] at h;injection h with h;subst h;rw [if_neg h0,if_neg h1,if_pos h2];rfl
  by_cases h3:p.d3=0
  · rw [if_neg h0,if_neg h1,if_neg h2,if_pos h3] at h;injection h with h;subst h;rw [if_neg h0,if_neg h1,if_neg h2,if_pos h3];rfl
  rw [if_neg h0,if_neg h1,if_neg h2,if_neg h3] at h;cases h
 rw [he] at hs
 exact hs
theorem wrap256b (a c:Int):wrap64 (a + wrap64 (256 * c)) % 4294967296=(a + 256 * c) % 4294967296:=by
 unfold wrap64
 omega
theorem WPipes (b:Nat) (k:Kern) (p:Proc) (x:Call) (w:World) (hk:WorkAt w b k) (hn:k.p.length≤1000000) (hpl:k.pipes.length≤1000000):
 Calls Tryz.prog 188 #[.pointer (some ⟨b,0,none⟩),.agg p.cells,.agg x.cells] w (GivesW b (.tuple #[.int .u32 (pipes k p).v,.int .i64 (pipes k p).e]) (pipes k p).k w):=by
 obtain ⟨y,bs,hk0,hl⟩:=hk
 have hbl:=hlt hk0
 obtain ⟨W0,hW0,HK_0,HP_0,HX_0,HE_0,HL_0,hz0,hzK,hzP,hzX⟩:=st2 p.cells 167 x.cells 165 hk0 hl
 have kPi:W0.cell? ⟨b,4,none⟩=some y.pi:=hcell HK_0.out 4
 go_enter Tryz.func188,Tryz.ntmps188
 repeat' (first
  |(rw [hW0];clear hW0)
  |go_values|go_skip|go_guarded|(with_reducible refine wg ?_)|go_step|go_upon)
 refine (PMake y.pi k.pipes _ HL_0.out.pi (by omega)).mono ?_
 rintro er W1 ⟨v1,hb,hcs⟩
 have HK_1:=nB hb HK_0
 have HP_1:=nB hb HP_0
 have HX_1:=nB hb HX_0
 have HE_1:=nE hb HE_0
 have HL_1:=nL hb HL_0
 clear HK_0 HP_0 HX_0 HE_0 HL_0
 clear hb kPi
 rcases hcs with ⟨hm,hs1,rfl⟩|⟨l2,n,hm,hs1,rfl⟩
 · have HW:=hU (show pipes k p=⟨k,0,5⟩ by rw [pipes,hm])
   clear hm hs1
   dsimp only
   repeat' (first
    |go_values|go_skip|go_guarded|(with_reducible refine wg ?_)|go_step|go_upon)
   go_ret2
   rw [HW.out]
   exact ⟨rfl,⟨_,_,HK_1.out,HL_1.out⟩,HE_1.out⟩
 cases hf:freeFd p with
 |none=>
  have HW:=hU (show pipes k p=⟨k,0,5⟩ by rw [pipes,hm];simp only [hf])
  have HS:=hU (fun W=> PSet_none p n false W hf)
  clear hm hf hs1
  dsimp only
  repeat' (first
   |(refine wpList_load (t:=163) (v:=.agg p.fds) rfl rfl rfl (run_load_part aggFds HP_1.out (o:=14) rfl rfl) ?_)
   |go_values|go_skip|go_guarded|(with_reducible refine wg ?_)|go_step|go_upon)
  refine (HS.out _).mono ?_
  rintro er W2 ⟨rfl,hb⟩
  have HK_2:=nB hb HK_1
  have HP_2:=nB hb HP_1
  have HX_2:=nB hb HX_1
  have HE_2:=nE hb HE_1
  have HL_2:=nL hb HL_1
  clear HK_1 HP_1 HX_1 HE_1 HL_1
  clear hb
  dsimp only
  obtain ⟨abF,hab,hab1F⟩:=nb0 HE_2
  have habKF:=nlt HK_2 hab
  have habPF:=nlt HP_2 hab
  have habXF:=nlt HX_2 hab
  obtain ⟨W3,hWn,hba,HF_3⟩:=nb1 (.cells #[.int .i64 0,.bool false,.int .i64 0,.bool false,.int .i64 0,.bool false,.int .i64 0,.bool false] 163) hab
  have HK_3:=nB hba HK_2
  have HP_3:=nB hba HP_2
  have HX_3:=nB hba HX_2
  have HE_3:=nE hba HE_2
  have HL_3:=nL hba HL_2
  clear HK_2 HP_2 HX_2 HE_2 HL_2
  clear hba
  repeat' (first
   |(rw [hWn,hab];clear hWn hab)
   |(refine wpList_store (t:=163) (v:=.agg p.fds) (off:=0) (new:=p.fds) rfl rfl rfl rfl aggFds.size HF_3.out rfl (show 0 + 8≤8 by decide) (onesFd p) rfl ?_;intro W4 hp
     have HE_4:=pE hp HE_3
     have HL_4:Hid (LayAt W4 y bs k):=hU (hl.kept hk0 noWork HE_4.out)
     have HF_4:=pA hp
     have HK_4:=pT hp HF_3 HK_3
     have HP_4:=pT hp HF_3 HP_3
     have HX_4:=pT hp HF_3 HX_3
     clear hp
     clear HK_3 HP_3 HX_3 HF_3 HE_3 HL_3)
   |go_values|go_skip|go_guarded|(with_reducible refine wg ?_)|go_step|go_upon)
  go_ret2
  rw [HW.out]
  exact ⟨rfl,⟨_,_,HK_4.out,HL_4.out⟩,HE_4.out⟩
 |some a=>
  have HS:=hU (fun W=> PSet_some p a n false W hf)
  obtain ⟨p1,hp1⟩:∃ p1,setFd p a n false=p1:=⟨_,rfl⟩
  rw [hp1] at HS
  obtain ⟨ia,hia⟩:∃ ia:Int,(a:Int)=ia:=⟨_,rfl⟩
  rw [hia] at HS
  have SPi_1:=hU hs1
  clear hs1
  cases hf1:freeFd p1 with
  |none=>
   have HW:=hU (show pipes k p=⟨k,0,5⟩ by rw [pipes,hm];simp only [hf,hp1,hf1])
   have HS1:=hU (fun W=> PSet_none p1 n true W hf1)
   clear hm hf hf1 hp1 hia
   dsimp only
   repeat' (first
    |(refine wpList_load (t:=163) (v:=.agg p.fds) rfl rfl rfl (run_load_part aggFds HP_1.out (o:=14) rfl rfl) ?_)
    |go_values|go_skip|go_guarded|(with_reducible refine wg ?_)|go_step|go_upon)
   refine (HS.out _).mono ?_
   rintro er W2 ⟨rfl,hb⟩
   have HK_2:=nB hb HK_1
   have HP_2:=nB hb HP_1
   have HX_2:=nB hb HX_1
   have HE_2:=nE hb HE_1
   have HL_2:=nL hb HL_1
   have SPi_2:=hU (SPi_1.out.below hb)
   clear HK_1 HP_1 HX_1 HE_1 HL_1 SPi_1
   clear hb
   dsimp only
   obtain ⟨abF,hab,hab1F⟩:=nb0 HE_2
   have habKF:=nlt HK_2 hab
   have habPF:=nlt HP_2 hab
   have habXF:=nlt HX_2 hab
   obtain ⟨W3,hWn,hba,HF_3⟩:=nb1 (.cells #[.int .i64 0,.bool false,.int .i64 0,.bool false,.int .i64 0,.bool false,.int .i64 0,.bool false] 163) hab
   have HK_3:=nB hba HK_2
   have HP_3:=nB hba HP_2
   have HX_3:=nB hba HX_2
   have HE_3:=nE hba HE_2
   have HL_3:=nL hba HL_2
   have SPi_3:=hU (SPi_2.out.below hba)
   clear HK_2 HP_2 HX_2 HE_2 HL_2 SPi_2
   clear hba
   repeat' (first
    |(rw [hWn,hab];clear hWn hab)
    |(refine wpList_store (t:=163) (v:=.agg p1.fds) (off:=0) (new:=p1.fds) rfl rfl rfl rfl aggFds.size HF_3.out rfl (show 0 + 8≤8 by decide) (onesFd p1) rfl ?_;intro W4 hp
      have HE_4:=pE hp HE_3
      have HL_4:Hid (LayAt W4 y bs k):=hU (hl.kept hk0 noWork HE_4.out)
      have HF_4:=pA hp
      have HK_4:=pT hp HF_3 HK_3
      have HP_4:=pT hp HF_3 HP_3
      have HX_4:=pT hp HF_3 HX_3
      have SPi_4:=hU (SPi_3.out.put HF_3.out hp (by decide))
      clear hp
      clear HK_3 HP_3 HX_3 HF_3 HE_3 HL_3 SPi_3)
    |(refine wpList_load (t:=163) (v:=.agg p1.fds) rfl rfl rfl (run_load_whole aggFds HF_4.out rfl) ?_)
    |go_values|go_skip|go_guarded|(with_reducible refine wg ?_)|go_step|go_upon)
   refine (HS1.out _).mono ?_
   rintro er W5 ⟨rfl,hb⟩
   have HK_5:=nB hb HK_4
   have HP_5:=nB hb HP_4
   have HX_5:=nB hb HX_4
   have HF_5:=nB hb HF_4
   have HE_5:=nE hb HE_4
   have HL_5:=nL hb HL_4
   have SPi_5:=hU (SPi_4.out.below hb)
   clear HK_4 HP_4 HX_4 HF_4 HE_4 HL_4 SPi_4
   clear hb
   dsimp only
   repeat' (first
    |(refine wpList_store (t:=163) (v:=.agg p1.fds) (off:=0) (new:=p1.fds) rfl rfl rfl rfl aggFds.size HF_5.out rfl (show 0 + 8≤8 by decide) (onesFd p1) rfl ?_;intro W6 hp
      have HE_6:=pE hp HE_5
      have HL_6:Hid (LayAt W6 y bs k):=hU (hl.kept hk0 noWork HE_6.out)
      have HF_6:=pA hp
      have HK_6:=pT hp HF_5 HK_5
      have HP_6:=pT hp HF_5 HP_5
      have HX_6:=pT hp HF_5 HX_5
      have SPi_6:=hU (SPi_5.out.put HF_5.out hp (by decide))
      clear hp
      clear HK_5 HP_5 HX_5 HF_5 HE_5 HL_5 SPi_5)
    |go_values|go_skip|go_guarded|(with_reducible refine wg ?_)|go_step|go_upon)
   go_ret2
   rw [HW.out]
   exact ⟨rfl,⟨_,_,HK_6.out,HL_6.out⟩,HE_6.out⟩
  |some c=>
   have HS1:=hU (fun W=> PSet_some p1 c n true W hf1)
   obtain ⟨p2,hp2⟩:∃ p2,setFd p1 c n true=p2:=⟨_,rfl⟩
   rw [hp2] at HS1
   obtain ⟨ic,hic⟩:∃ ic:Int,(c:Int)=ic:=⟨_,rfl⟩
   rw [hic] at HS1
   have HW:=hU (show pipes k p=⟨{k with pipes:=l2,p:=put k.p (p.withFds p2)},(ia + 256 * ic) % 4294967296,0⟩ by rw [pipes,hm,← hp2,← hp1,withFds_setFd2,← hia,← hic];simp only [hf,hp1,hf1])
   clear hm hf hf1 hp1 hp2 hia hic
   dsimp only
   repeat' (first
    |(refine wpList_load (t:=163) (v:=.agg p.fds) rfl rfl rfl (run_load_part aggFds HP_1.out (o:=14) rfl rfl) ?_)
    |go_values|go_skip|go_guarded|(with_reducible refine wg ?_)|go_step|go_upon)
   refine (HS.out _).mono ?_
   rintro er W2 ⟨rfl,hb⟩
   have HK_2:=nB hb HK_1
   have HP_2:=nB hb HP_1
   have HX_2:=nB hb HX_1
   have HE_2:=nE hb HE_1
   have HL_2:=nL hb HL_1
   have SPi_2:=hU (SPi_1.out.below hb)
   clear HK_1 HP_1 HX_1 HE_1 HL_1 SPi_1
   clear hb
   dsimp only
   obtain ⟨abF,hab,hab1F⟩:=nb0 HE_2
   have habKF:=nlt HK_2 hab
   have habPF:=nlt HP_2 hab
   have habXF:=nlt HX_2 hab
   obtain ⟨W3,hWn,hba,HF_3⟩:=nb1 (.cells #[.int .i64 0,.bool false,.int .i64 0,.bool false,.int .i64 0,.bool false,.int .i64 0,.bool false] 163) hab
   have HK_3:=nB hba HK_2
   have HP_3:=nB hba HP_2
   have HX_3:=nB hba HX_2
   have HE_3:=nE hba HE_2
   have HL_3:=nL hba HL_2
   have SPi_3:=hU (SPi_2.out.below hba)
   clear HK_2 HP_2 HX_2 HE_2 HL_2 SPi_2
   clear hba
   repeat' (first
    |(rw [hWn,hab];clear hWn hab)
    |(refine wpList_store (t:=163) (v:=.agg p1.fds) (off:=0) (new:=p1.fds) rfl rfl rfl rfl aggFds.size HF_3.out rfl (show 0 + 8≤8 by decide) (onesFd p1) rfl ?_;intro W4 hp
      have HE_4:=pE hp HE_3
      have HL_4:Hid (LayAt W4 y bs k):=hU (hl.kept hk0 noWork HE_4.out)
      have HF_4:=pA hp
      have HK_4:=pT hp HF_3 HK_3
      have HP_4:=pT hp HF_3 HP_3
      have HX_4:=pT hp HF_3 HX_3
      have SPi_4:=hU (SPi_3.out.put HF_3.out hp (by decide))
      clear hp
      clear HK_3 HP_3 HX_3 HF_3 HE_3 HL_3 SPi_3)
    |(refine wpList_load (t:=163) (v:=.agg p1.fds) rfl rfl rfl (run_load_whole aggFds HF_4.out rfl) ?_)
    |go_values|go_skip|go_guarded|(with_reducible refine wg ?_)|go_step|go_upon)
   refine (HS1.out _).mono ?_
   rintro er W5 ⟨rfl,hb⟩
   have HK_5:=nB hb HK_4
   have HP_5:=nB hb HP_4
   have HX_5:=nB hb HX_4
   have HF_5:=nB hb HF_4
   have HE_5:=nE hb HE_4
   have HL_5:=nL hb HL_4
   have SPi_5:=hU (SPi_4.out.below hb)
   clear HK_4 HP_4 HX_4 HF_4 HE_4 HL_4 SPi_4
   clear hb
   dsimp only
   repeat' (first
    |(refine wpList_store (t:=163) (v:=.agg p2.fds) (off:=0) (new:=p2.fds) rfl rfl rfl rfl aggFds.size HF_5.out rfl (show 0 + 8≤8 by decide) (onesFd p2) rfl ?_;intro W6 hp
      have HE_6:=pE hp HE_5
      have HL_6:Hid (LayAt W6 y bs k):=hU (hl.kept hk0 noWork HE_6.out)
      have HF_6:=pA hp
      have HK_6:=pT hp HF_5 HK_5
      have HP_6:=pT hp HF_5 HP_5
      have HX_6:=pT hp HF_5 HX_5
      have SPi_6:=hU (SPi_5.out.put HF_5.out hp (by decide))
      clear hp
      clear HK_5 HP_5 HX_5 HF_5 HE_5 HL_5 SPi_5)
    |(refine wpList_load (t:=163) (v:=.agg p2.fds) rfl rfl rfl (run_load_whole aggFds HF_6.out rfl) ?_)
    |(refine wpList_store (t:=163) (v:=.agg p2.fds) (off:=14) (new:=(p.withFds p2).cells) rfl rfl rfl rfl aggFds.size HP_6.out rfl (show 14 + 8≤26 by decide) (onesFd p2) rfl ?_;intro W7 hp
      have HE_7:=pE hp HE_6
      have HL_7:Hid (LayAt W7 y bs k):=hU (hl.kept hk0 noWork HE_7.out)
      have HP_7:=pA hp
      have HK_7:=pT hp HP_6 HK_6
      have HX_7:=pT hp HP_6 HX_6
      have HF_7:=pT hp HP_6 HF_6
      have SPi_7:=hU (SPi_6.out.put HP_6.out hp (by decide))
      clear hp
      clear HK_6 HP_6 HX_6 HF_6 HE_6 HL_6 SPi_6)
    |go_values|go_skip|go_guarded|(with_reducible refine wg ?_)|go_step|go_upon)
   refine wp_region_noPanic ?_
   refine go0 (S:=fun W=> (W.cell? ⟨b,0,none⟩=some y.p)∧(W.heap[w.heap.size]? =some (.cells (p.withFds p2).cells 167 (0,0)))) [13,17] (⟨hcell HK_7.out 0,HP_7.out⟩) fun hS=> ?_
   obtain ⟨W8,hWd⟩:=exW W7.drew
   have HK_8:=dB hWd HK_7
   have HP_8:=dB hWd HP_7
   have HX_8:=dB hWd HX_7
   have HF_8:=dB hWd HF_7
   have HE_8:=dE hWd HE_7
   have HL_8:=dL hWd HL_7
   have SPi_8:=dS hWd SPi_7
   rw [hWd] at hS ⊢
   clear hWd
   clear HK_7 HP_7 HX_7 HF_7 HE_7 HL_7 SPi_7
   refine tp 0 ?_;try simp only [acts]
   refine tp 1 ?_;try simp only [acts]
   refine tp 2 ?_;try simp only [acts]
   refine tp 3 ?_;try simp only [acts]
   refine tp 4 ?_;try simp only [acts]
   refine tp 5 ?_;try simp only [acts]
   refine tp 6 ?_;try simp only [acts]
   refine tl 7 ?_;try simp only [acts]
   refine tv 8 (.agg (p.withFds p2).cells) (fun W hSW=> run_val_load rfl rfl (run_load_whole aggProc hSW.2 rfl)) ?_
   (try simp only [acts])
   refine ro 9 fun K hK=> ?_
   refine want rfl ?_
   go_simp
   refine (TPut y.p k.p (p.withFds p2) _ HL_8.out.p (by omega)).mono ?_
   rintro er W9 ⟨v6,rfl,ho,hb⟩
   have HK_9:=nB hb HK_8
   have HP_9:=nB hb HP_8
   have HX_9:=nB hb HX_8
   have HF_9:=nB hb HF_8
   have HE_9:=nE hb HE_8
   have HL_9:=nL hb HL_8
   have SPi_9:=hU (SPi_8.out.below hb)
   clear HK_8 HP_8 HX_8 HF_8 HE_8 HL_8 SPi_8
   clear hb
   have SP_9:=hU (KR.Own.sl szProc ho)
   dsimp only
   try clear hS
   refine nx hK (⟨hcell HK_9.out 0,HP_9.out⟩) fun hS=> ?_
   clear hK K
   (try simp only [acts])
   refine tp 10 ?_;try simp only [acts]
   refine tp 11 ?_;try simp only [acts]
   refine tp 12 ?_;try simp only [acts]
   refine ro 13 fun K hK=> ?_
   refine want rfl ?_
   refine wp_store1 (v:=v1) (off:=4) (new:=kcells {y with pi:=v1} {k with pipes:=l2}) rfl rfl rfl oneSPipe HK_9.out SPi_9.out.vcells SPi_9.out.vone (show 4 + 1≤17 by decide) rfl ?_
   intro W10 hp
   have HL_10:Hid (LayAt W10 {y with pi:=v1} bs {k with pipes:=l2}):=hU ((HL_9.out.setPi SPi_9.out).put HK_9.out noWork hp)
   have HE_10:=pK hp HE_9
   have HK_10:Hid (W10.heap[b]? =some (.cells (kcells {y with pi:=v1} {k with pipes:=l2}) 178 (0,0))):=pA hp
   have HP_10:=pT hp HK_9 HP_9
   have HX_10:=pT hp HK_9 HX_9
   have HF_10:=pT hp HK_9 HF_9
   have SPi_10:=hU (SPi_9.out.put HK_9.out hp (by decide))
   have SP_10:=hU (SP_9.out.put HK_9.out hp (by decide))
   clear hp
   clear HK_9 HP_9 HX_9 HF_9 HE_9 HL_9 SPi_9 SP_9
   refine nt hK ?_
   clear hK K
   try clear hS
   (try simp only [acts])
   refine tp 14 ?_;try simp only [acts]
   refine tp 15 ?_;try simp only [acts]
   refine tp 16 ?_;try simp only [acts]
   refine ro 17 fun K hK=> ?_
   refine want rfl ?_
   refine wp_store1 (v:=v6) (off:=0) (new:=kcells {y with pi:=v1,p:=v6} {k with pipes:=l2,p:=put k.p (p.withFds p2)}) rfl rfl rfl oneSProc HK_10.out SP_10.out.vcells SP_10.out.vone (show 0 + 1≤17 by decide) rfl ?_
   intro W11 hp
   have HL_11:Hid (LayAt W11 {y with pi:=v1,p:=v6} bs {k with pipes:=l2,p:=put k.p (p.withFds p2)}):=hU ((HL_10.out.setP SP_10.out).put HK_10.out noWork hp)
   have HE_11:=pK hp HE_10
   have HK_11:Hid (W11.heap[b]? =some (.cells (kcells {y with pi:=v1,p:=v6} {k with pipes:=l2,p:=put k.p (p.withFds p2)}) 178 (0,0))):=pA hp
   have HP_11:=pT hp HK_10 HP_10
   have HX_11:=pT hp HK_10 HX_10
   have HF_11:=pT hp HK_10 HF_10
   have SPi_11:=hU (SPi_10.out.put HK_10.out hp (by decide))
   have SP_11:=hU (SP_10.out.put HK_10.out hp (by decide))
   clear hp
   clear HK_10 HP_10 HX_10 HF_10 HE_10 HL_10 SPi_10 SP_10
   refine nt hK ?_
   clear hK K
   try clear hS
   (try simp only [acts])
   refine doneL (by kernel_rfl) (NoPanic.normal ?_) _
   try clear hS
   repeat' (first|go_values|go_skip|go_guarded|(with_reducible refine wg ?_)|go_step|go_upon)
   go_ret2
   rw [HW.out]
   exact ⟨congrArg (fun z=> Ending.returned (.tuple #[.int .u32 z,.int .i64 0])) (wrap256b ia ic),⟨_,_,HK_11.out,HL_11.out⟩,HE_11.out⟩
theorem wrap256 (a c:Int):wrap64 (wrap64 (256 * a) + c) % 4294967296=(256 * a + c) % 4294967296:=by
 unfold wrap64
 omega
theorem WWait (b:Nat) (k:Kern) (p:Proc) (x:Call) (w:World) (hk:WorkAt w b k) (hn:k.p.length≤1000000):
 Calls Tryz.prog 184 #[.pointer (some ⟨b,0,none⟩),.agg p.cells,.agg x.cells] w (GivesW b (.tuple #[.int .u32 (wait k p).v,.int .i64 (wait k p).e]) (wait k p).k w):=by
 obtain ⟨y,bs,hk0,hl⟩:=hk
 have hbl:=hlt hk0
 obtain ⟨pa,pc,hpa,hpc,_⟩:=hl.p.shape
 have HPA:=hU hpa
 clear hpa hpc
 obtain ⟨W0,hW0,HK_0,HP_0,HX_0,HE_0,HL_0,hz0,hzK,hzP,hzX⟩:=st2 p.cells 167 x.cells 165 hk0 hl
 cases hd:dead k.p p.pid with
 |none=>
  obtain ⟨cl,hcl⟩:∃ cl,(children k.p p.pid).length=cl:=⟨_,rfl⟩
  have HCL:=hU hcl
  have HW:=hU (show wait k p=if cl=0 then ⟨k,0,12⟩ else ⟨k,0,6⟩ by rw [wait,hd,← hcl];simp only [List.length_eq_zero_iff])
  have HD:=hU (fun W h=> show Calls Tryz.prog 227 #[.slice pa k.p.length pc,.int .i64 p.pid] W (Gives (.tuple #[.int .i64 0,.bool false]) W) by have:=TDead pa pc k.p p.pid W h;rwa [hd] at this)
  clear hd hcl
  go_enter Tryz.func184,Tryz.ntmps184
  repeat' (first
   |(rw [hW0];clear hW0)
   |go_values|go_skip|go_guarded|(with_reducible refine wg ?_)|go_step|go_upon)
  refine wp_region_noPanic ?_
  refine go0 (S:=fun W=> (W.cell? ⟨b,0,none⟩=some (.slice pa k.p.length pc))∧(W.cell? ⟨w.heap.size,0,none⟩=some (.int .i64 p.pid))) [] (⟨((hcell HK_0.out 0).trans (congrArg some HPA.out)),hcell HP_0.out 0⟩) fun hS=> ?_
  obtain ⟨W1,hWd⟩:=exW W0.drew
  have HK_1:=dB hWd HK_0
  have HP_1:=dB hWd HP_0
  have HX_1:=dB hWd HX_0
  have HE_1:=dE hWd HE_0
  have HL_1:=dL hWd HL_0
  rw [hWd] at hS ⊢
  clear hWd
  clear HK_0 HP_0 HX_0 HE_0 HL_0
  refine tp 0 ?_;try simp only [acts]
  refine tp 1 ?_;try simp only [acts]
  refine tp 2 ?_;try simp only [acts]
  refine tp 3 ?_;try simp only [acts]
  refine tl 4 ?_;try simp only [acts]
  refine tp 5 ?_;try simp only [acts]
  refine tl 6 ?_;try simp only [acts]
  refine ro 7 fun K hK=> ?_
  refine want rfl ?_
  go_simp
  refine (HD.out _ (by have h:=HL_1.out.p;rw [HPA.out] at h;exact h)).mono ?_
  rintro er W2 ⟨rfl,hb⟩
  have HK_2:=nB hb HK_1
  have HP_2:=nB hb HP_1
  have HX_2:=nB hb HX_1
  have HE_2:=nE hb HE_1
  have HL_2:=nL hb HL_1
  clear HK_1 HP_1 HX_1 HE_1 HL_1
  clear hb
  dsimp only
  try clear hS
  refine nx hK (⟨((hcell HK_2.out 0).trans (congrArg some HPA.out)),hcell HP_2.out 0⟩) fun hS=> ?_
  clear hK K
  (try simp only [acts])
  refine tp 8 ?_;try simp only [acts]
  refine tp 9 ?_;try simp only [acts]
  refine tp 10 ?_;try simp only [acts]
  refine tp 11 ?_;try simp only [acts]
  refine tp 12 ?_;try simp only [acts]
  refine doneL (by kernel_rfl) (NoPanic.normal ?_) _
  try clear hS
  repeat' (first
   |go_values|go_skip|go_guarded|(with_reducible refine wg ?_)|go_step|go_upon)
  by_cases hc:cl=0
  · have HW2:=HW.out
    rw [if_pos hc] at HW2
    have HW3:=hU HW2
    have hcb:((cl:Int)==0)=true:=by simp [hc]
    clear HW HW2 hc
    refine wp_region_noPanic ?_
    refine go0 (S:=fun W=> (W.cell? ⟨b,0,none⟩=some (.slice pa k.p.length pc))∧(W.cell? ⟨w.heap.size,0,none⟩=some (.int .i64 p.pid))) [] (⟨((hcell HK_2.out 0).trans (congrArg some HPA.out)),hcell HP_2.out 0⟩) fun hS=> ?_
    obtain ⟨W3,hWd⟩:=exW W2.drew
    have HK_3:=dB hWd HK_2
    have HP_3:=dB hWd HP_2
    have HX_3:=dB hWd HX_2
    have HE_3:=dE hWd HE_2
    have HL_3:=dL hWd HL_2
    rw [hWd] at hS ⊢
    clear hWd
    clear HK_2 HP_2 HX_2 HE_2 HL_2
    refine tp 0 ?_;try simp only [acts]
    refine tp 1 ?_;try simp only [acts]
    refine tp 2 ?_;try simp only [acts]
    refine tp 3 ?_;try simp only [acts]
    refine tl 4 ?_;try simp only [acts]
    refine tp 5 ?_;try simp only [acts]
    refine tl 6 ?_;try simp only [acts]
    refine ro 7 fun K hK=> ?_
    refine want rfl ?_
    go_simp
    refine (TChildren pa pc k.p p.pid _ (by have h:=HL_3.out.p;rw [HPA.out] at h;exact h) hn).mono ?_
    rintro er W4 ⟨v6,rfl,hsc,hb⟩
    obtain ⟨ca,cc,hv6,_,_⟩:=hsc.shape
    rw [HCL.out] at hv6
    subst hv6
    clear hsc
    have HK_4:=nB hb HK_3
    have HP_4:=nB hb HP_3
    have HX_4:=nB hb HX_3
    have HE_4:=nE hb HE_3
    have HL_4:=nL hb HL_3
    clear HK_3 HP_3 HX_3 HE_3 HL_3
    clear hb
    dsimp only
    try clear hS
    refine nx hK (⟨((hcell HK_4.out 0).trans (congrArg some HPA.out)),hcell HP_4.out 0⟩) fun hS=> ?_
    clear hK K
    (try simp only [acts])
    refine tp 8 ?_;try simp only [acts]
    refine tp 9 ?_;try simp only [acts]
    refine tp 10 ?_;try simp only [acts]
    refine doneL (by kernel_rfl) (NoPanic.normal ?_) _
    try clear hS
    repeat' (first|go_values|go_skip|go_guarded|(with_reducible refine wg ?_)|go_step|go_upon)
    go_ret2
    rw [HW3.out]
    exact ⟨rfl,⟨_,_,HK_4.out,HL_4.out⟩,HE_4.out⟩
  have HW2:=HW.out
  rw [if_neg hc] at HW2
  have HW3:=hU HW2
  have hcb:((cl:Int)==0)=false:=by simp;omega
  clear HW HW2 hc
  refine wp_region_noPanic ?_
  refine go0 (S:=fun W=> (W.cell? ⟨b,0,none⟩=some (.slice pa k.p.length pc))∧(W.cell? ⟨w.heap.size,0,none⟩=some (.int .i64 p.pid))) [] (⟨((hcell HK_2.out 0).trans (congrArg some HPA.out)),hcell HP_2.out 0⟩) fun hS=> ?_
  obtain ⟨W3,hWd⟩:=exW W2.drew
  have HK_3:=dB hWd HK_2
  have HP_3:=dB hWd HP_2
  have HX_3:=dB hWd HX_2
  have HE_3:=dE hWd HE_2
  have HL_3:=dL hWd HL_2
  rw [hWd] at hS ⊢
  clear hWd
  clear HK_2 HP_2 HX_2 HE_2 HL_2
  refine tp 0 ?_;try simp only [acts]
  refine tp 1 ?_;try simp only [acts]
  refine tp 2 ?_;try simp only [acts]
  refine tp 3 ?_;try simp only [acts]
  refine tl 4 ?_;try simp only [acts]
  refine tp 5 ?_;try simp only [acts]
  refine tl 6 ?_;try simp only [acts]
  refine ro 7 fun K hK=> ?_
  refine want rfl ?_
  go_simp
  refine (TChildren pa pc k.p p.pid _ (by have h:=HL_3.out.p;rw [HPA.out] at h;exact h) hn).mono ?_
  rintro er W4 ⟨v6,rfl,hsc,hb⟩
  obtain ⟨ca,cc,hv6,_,_⟩:=hsc.shape
  rw [HCL.out] at hv6
  subst hv6
  clear hsc
  have HK_4:=nB hb HK_3
  have HP_4:=nB hb HP_3
  have HX_4:=nB hb HX_3
  have HE_4:=nE hb HE_3
  have HL_4:=nL hb HL_3
  clear HK_3 HP_3 HX_3 HE_3 HL_3
  clear hb
  dsimp only
  try clear hS
  refine nx hK (⟨((hcell HK_4.out 0).trans (congrArg some HPA.out)),hcell HP_4.out 0⟩) fun hS=> ?_
  clear hK K
  (try simp only [acts])
  refine tp 8 ?_;try simp only [acts]
  refine tp 9 ?_;try simp only [acts]
  refine tp 10 ?_;try simp only [acts]
  refine doneL (by kernel_rfl) (NoPanic.normal ?_) _
  try clear hS
  repeat' (first|go_values|go_skip|go_guarded|(with_reducible refine wg ?_)|go_step|go_upon)
  go_ret2
  rw [HW3.out]
  exact ⟨rfl,⟨_,_,HK_4.out,HL_4.out⟩,HE_4.out⟩
 |some q=>
  obtain ⟨r,hr⟩:∃ r,(find k.p q.pid).getD Proc.zero=r:=⟨_,rfl⟩
  have HW:=hU (show wait k p=⟨{k with p:=remove k.p q.pid},(256 * q.pid + r.code) % 4294967296,0⟩ by rw [wait,hd,← hr])
  have HD:=hU (fun W h=> show Calls Tryz.prog 227 #[.slice pa k.p.length pc,.int .i64 p.pid] W (Gives (.tuple #[.int .i64 q.pid,.bool true]) W) by have:=TDead pa pc k.p p.pid W h;rwa [hd] at this)
  have HF:=hU (fun W h=> show Calls Tryz.prog 123 #[y.p,.int .i64 q.pid] W (Gives (.tuple #[.agg r.cells,.bool (find k.p q.pid).isSome]) W) by rw [← hr];exact TFind y.p k.p q.pid W h)
  clear hd hr
  go_enter Tryz.func184,Tryz.ntmps184
  repeat' (first
   |(rw [hW0];clear hW0)
   |go_values|go_skip|go_guarded|(with_reducible refine wg ?_)|go_step|go_upon)
  refine wp_region_noPanic ?_
  refine go0 (S:=fun W=> (W.cell? ⟨b,0,none⟩=some (.slice pa k.p.length pc))∧(W.cell? ⟨w.heap.size,0,none⟩=some (.int .i64 p.pid))) [] (⟨((hcell HK_0.out 0).trans (congrArg some HPA.out)),hcell HP_0.out 0⟩) fun hS=> ?_
  obtain ⟨W1,hWd⟩:=exW W0.drew
  have HK_1:=dB hWd HK_0
  have HP_1:=dB hWd HP_0
  have HX_1:=dB hWd HX_0
  have HE_1:=dE hWd HE_0
  have HL_1:=dL hWd HL_0
  rw [hWd] at hS ⊢
  clear hWd
  clear HK_0 HP_0 HX_0 HE_0 HL_0
  refine tp 0 ?_;try simp only [acts]
  refine tp 1 ?_;try simp only [acts]
  refine tp 2 ?_;try simp only [acts]
  refine tp 3 ?_;try simp only [acts]
  refine tl 4 ?_;try simp only [acts]
  refine tp 5 ?_;try simp only [acts]
  refine tl 6 ?_;try simp only [acts]
  refine ro 7 fun K hK=> ?_
  refine want rfl ?_
  go_simp
  refine (HD.out _ (by have h:=HL_1.out.p;rw [HPA.out] at h;exact h)).mono ?_
  rintro er W2 ⟨rfl,hb⟩
  have HK_2:=nB hb HK_1
  have HP_2:=nB hb HP_1
  have HX_2:=nB hb HX_1
  have HE_2:=nE hb HE_1
  have HL_2:=nL hb HL_1
  clear HK_1 HP_1 HX_1 HE_1 HL_1
  clear hb
  dsimp only
  try clear hS
  refine nx hK (⟨((hcell HK_2.out 0).trans (congrArg some HPA.out)),hcell HP_2.out 0⟩) fun hS=> ?_
  clear hK K
  (try simp only [acts])
  refine tp 8 ?_;try simp only [acts]
  refine tp 9 ?_;try simp only [acts]
  refine tp 10 ?_;try simp only [acts]
  refine tp 11 ?_;try simp only [acts]
  refine tp 12 ?_;try simp only [acts]
  refine doneL (by kernel_rfl) (NoPanic.normal ?_) _
  try clear hS
  have kP1:W2.cell? ⟨b,0,none⟩=some y.p:=hcell HK_2.out 0
  repeat' (first
   |go_values|go_skip|go_guarded|(with_reducible refine wg ?_)|go_step|go_upon)
  refine (HF.out _ HL_2.out.p).mono ?_
  rintro er W3 ⟨rfl,hb⟩
  have HK_3:=nB hb HK_2
  have HP_3:=nB hb HP_2
  have HX_3:=nB hb HX_2
  have HE_3:=nE hb HE_2
  have HL_3:=nL hb HL_2
  clear HK_2 HP_2 HX_2 HE_2 HL_2
  clear hb kP1
  dsimp only
  obtain ⟨abR,hab,hab1R⟩:=nb0 HE_3
  have habKR:=nlt HK_3 hab
  have habPR:=nlt HP_3 hab
  have habXR:=nlt HX_3 hab
  have hoffR:=HL_3.out.p.offNew (Nat.le_of_eq hab)
  obtain ⟨W4,hWn,hba,HR_4⟩:=nb1 (.cells #[.int .i64 0,.int .i64 0,.int .i64 0,.int .u32 0,.int .u32 0,.int .u32 0,.int .u32 0,.int .u32 0,.int .u32 0,.int .u32 0,.int .u32 0,.int .u32 0,.string ⟨#[]⟩,.int .i64 0,.int .i64 0,.bool false,.int .i64 0,.bool false,.int .i64 0,.bool false,.int .i64 0,.bool false,.int .u32 0,.int .u32 0,.int .u32 0,.int .u32 0] 167) hab
  have HK_4:=nB hba HK_3
  have HP_4:=nB hba HP_3
  have HX_4:=nB hba HX_3
  have HE_4:=nE hba HE_3
  have HL_4:=nL hba HL_3
  clear HK_3 HP_3 HX_3 HE_3 HL_3
  clear hba
  repeat' (first
   |(rw [hWn,hab];clear hWn hab)
   |(refine wpList_store (t:=167) (v:=.agg r.cells) (off:=0) (new:=r.cells) rfl rfl rfl rfl aggProc.size HR_4.out rfl (show 0 + 26≤26 by decide) (onesProc r) rfl ?_;intro W5 hp
     have HE_5:=pE hp HE_4
     have HL_5:Hid (LayAt W5 y bs k):=hU (HL_4.out.putProc (HL_4.out.p.putOff hoffR hp) HR_4.out hp)
     have HR_5:=pA hp
     have HK_5:=pT hp HR_4 HK_4
     have HP_5:=pO hp HP_4
     have HX_5:=pT hp HR_4 HX_4
     clear hp
     clear HK_4 HP_4 HX_4 HR_4 HE_4 HL_4)
   |go_values|go_skip|go_guarded|(with_reducible refine wg ?_)|go_step|go_upon)
  try clear hWn hab
  have kP2:W5.cell? ⟨b,0,none⟩=some y.p:=hcell HK_5.out 0
  repeat' (first
   |(rw [kP2];go_simp)
   |go_values|go_skip|go_guarded|(with_reducible refine wg ?_)|go_step|go_upon)
  refine (TRemove y.p k.p q.pid _ HL_5.out.p (by omega)).mono ?_
  rintro er W6 ⟨vz,rfl,ho,hb⟩
  have HK_6:=nB hb HK_5
  have HP_6:=nB hb HP_5
  have HX_6:=nB hb HX_5
  have HR_6:=nB hb HR_5
  have HE_6:=nE hb HE_5
  have HL_6:=nL hb HL_5
  clear HK_5 HP_5 HX_5 HR_5 HE_5 HL_5
  have SZ_6:=hU (KR.Own.sl szProc ho)
  clear hb ho kP2
  dsimp only
  repeat' (first
   |(refine wpList_store1 (t:=42) (v:=vz) (off:=0) (new:=kcells {y with p:=vz} {k with p:=remove k.p q.pid}) rfl rfl rfl rfl oneSProc HK_6.out SZ_6.out.vcells SZ_6.out.vone (show 0 + 1≤17 by decide) rfl ?_;intro W7 hp
     have HL_7:Hid (LayAt W7 {y with p:=vz} bs {k with p:=remove k.p q.pid}):=hU ((HL_6.out.setP SZ_6.out).put HK_6.out noWork hp)
     have HE_7:=pK hp HE_6
     have HK_7:Hid (W7.heap[b]? =some (.cells (kcells {y with p:=vz} {k with p:=remove k.p q.pid}) 178 (0,0))):=pA hp
     have HP_7:=pT hp HK_6 HP_6
     have HX_7:=pT hp HK_6 HX_6
     have HR_7:=pT hp HK_6 HR_6
     have SZ_7:=hU (SZ_6.out.put HK_6.out hp (by decide))
     clear hp
     clear HK_6 HP_6 HX_6 HR_6 HE_6 HL_6 SZ_6)
   |go_values|go_skip|go_guarded|(with_reducible refine wg ?_)|go_step|go_upon)
  have kR:W7.cell? ⟨abR,13,none⟩=some (.int .i64 r.code):=hcell HR_7.out 13
  have zR:=hlt HR_7.out
  have fR:=hfro HR_7.out 13
  repeat' (first
   |(rw [kR];go_simp)
   |go_values|go_skip|go_guarded|(with_reducible refine wg ?_)|go_step|go_upon)
  go_ret2
  rw [HW.out]
  exact ⟨congrArg (fun z=> Ending.returned (.tuple #[.int .u32 z,.int .i64 0])) (wrap256 q.pid r.code),⟨_,_,HK_7.out,HL_7.out⟩,HE_7.out⟩
end Kn
end Go.Proofs.YtkepkcjjenidgaaGreatDoor
namespace Go.Proofs.YtkepkcjjenidgaaGreatDoor
open Go.RowKit KR
namespace Kn
def wayV (n:Int):Value × Bool:=
 if n=4 then (.func (.func 184) #[] #[],true) else
 if n=6 then (.func (.func 185) #[] #[],true) else
 if n=9 then (.func (.func 186) #[] #[],true) else
 if n=10 then (.func (.func 187) #[] #[],true) else
 if n=11 then (.func (.func 188) #[] #[],true) else
 if n=12 then (.func (.func 189) #[] #[],true) else
 if n=13 then (.func (.func 190) #[] #[],true) else
 if n=14 then (.func (.func 191) #[] #[],true) else
 if n=15 then (.func (.func 192) #[] #[],true) else
 if n=16 then (.func (.func 193) #[] #[],true) else (.nilFunc,false)
theorem aggWay:Agg Tryz.prog 243 1:=agg_of Tryz.underlying243 rfl (by kernel_rfl)
theorem way_4:wayV 4=(.func (.func 184) #[] #[],true):=rfl
theorem way_6:wayV 6=(.func (.func 185) #[] #[],true):=rfl
theorem way_9:wayV 9=(.func (.func 186) #[] #[],true):=rfl
theorem way_10:wayV 10=(.func (.func 187) #[] #[],true):=rfl
theorem way_11:wayV 11=(.func (.func 188) #[] #[],true):=rfl
theorem way_12:wayV 12=(.func (.func 189) #[] #[],true):=rfl
theorem way_13:wayV 13=(.func (.func 190) #[] #[],true):=rfl
theorem way_14:wayV 14=(.func (.func 191) #[] #[],true):=rfl
theorem way_15:wayV 15=(.func (.func 192) #[] #[],true):=rfl
theorem way_16:wayV 16=(.func (.func 193) #[] #[],true):=rfl
theorem way_no {n:Int} (h4:n ≠ 4) (h6:n ≠ 6) (h9:n ≠ 9) (h10:n ≠ 10) (h11:n ≠ 11) (h12:n ≠ 12) (h13:n ≠ 13) (h14:n ≠ 14) (h15:n ≠ 15) (h16:n ≠ 16):wayV n=(.nilFunc,false):=by
 unfold wayV
 rw [if_neg h4,if_neg h6,if_neg h9,if_neg h10,if_neg h11,if_neg h12,if_neg h13,if_neg h14,if_neg h15,if_neg h16]
theorem TriedF (n:Int) (w:World):Calls Tryz.prog 153 #[.int .u32 n] w (Gives (.tuple #[.agg #[(wayV n).1],.bool (wayV n).2]) w):=by
 have q0:=hnew w (.cells #[.nilFunc] 243)
 have hb0:Below w.heap.size w (w.alloc (.cells #[.nilFunc] 243)):=bel
 obtain ⟨W0,hW0⟩:∃ W0,(w.alloc (.cells #[.nilFunc] 243))=W0:=⟨_,rfl⟩
 rw [hW0] at q0 hb0
 have HQ:=hU q0
 have HB:=hU hb0
 clear q0 hb0
 by_cases h4:n=4
 · subst h4
   rw [way_4]
   dsimp only
   go_enter Tryz.func153,Tryz.ntmps153
   repeat' (first
    |(rw [hW0];clear hW0)
    |(refine wpList_store (t:=243) (v:=.agg #[(.func (.func 184) #[] #[])]) (off:=0) (new:=#[(.func (.func 184) #[] #[])]) rfl rfl rfl rfl aggWay.size HQ.out rfl (show 0 + 1≤1 by decide) (by intro u hu;simp [Value.cells] at hu;subst hu;rfl) rfl ?_;intro W1 hp)
    |go_values|go_skip|go_guarded|(with_reducible refine wg ?_)|go_step|go_upon)
   (try simp only [Exit.inBlock,Exit.then]);refine bodyPost_ret (res_cell_tmp Tryz.results153 aggWay rfl hp.at_ rfl) rfl ?_
   exact ⟨rfl,Below.put HB.out hp (Nat.le_refl _)⟩
 by_cases h6:n=6
 · subst h6
   rw [way_6]
   dsimp only
   go_enter Tryz.func153,Tryz.ntmps153
   repeat' (first
    |(rw [hW0];clear hW0)
    |(refine wpList_store (t:=243) (v:=.agg #[(.func (.func 185) #[] #[])]) (off:=0) (new:=#[(.func (.func 185) #[] #[])]) rfl rfl rfl rfl aggWay.size HQ.out rfl (show 0 + 1≤1 by decide) (by intro u hu;simp [Value.cells] at hu;subst hu;rfl) rfl ?_;intro W1 hp)
    |go_values|go_skip|go_guarded|(with_reducible refine wg ?_)|go_step|go_upon)
   (try simp only [Exit.inBlock,Exit.then]);refine bodyPost_ret (res_cell_tmp Tryz.results153 aggWay rfl hp.at_ rfl) rfl ?_
   exact ⟨rfl,Below.put HB.out hp (Nat.le_refl _)⟩
 by_cases h9:n=9
 · subst h9
   rw [way_9]
   dsimp only
   go_enter Tryz.func153,Tryz.ntmps153
   repeat' (first
    |(rw [hW0];clear hW0)
    |(refine wpList_store (t:=243) (v:=.agg #[(.func (.func 186) #[] #[])]) (off:=0) (new:=#[(.func (.func 186) #[] #[])]) rfl rfl rfl rfl aggWay.size HQ.out rfl (show 0 + 1≤1 by decide) (by intro u hu;simp [Value.cells] at hu;subst hu;rfl) rfl ?_;intro W1 hp)
    |go_values|go_skip|go_guarded|(with_reducible refine wg ?_)|go_step|go_upon)
   (try simp only [Exit.inBlock,Exit.then]);refine bodyPost_ret (res_cell_tmp Tryz.results153 aggWay rfl hp.at_ rfl) rfl ?_
   exact ⟨rfl,Below.put HB.out hp (Nat.le_refl _)⟩
 by_cases h10:n=10
 · subst h10
   rw [way_10]
   dsimp only
   go_enter Tryz.func153,Tryz.ntmps153
   repeat' (first
    |(rw [hW0];clear hW0)
    |(refine wpList_store (t:=243) (v:=.agg #[(.func (.func 187) #[] #[])]) (off:=0) (new:=#[(.func (.func 187) #[] #[])]) rfl rfl rfl rfl aggWay.size HQ.out rfl (show 0 + 1≤1 by decide) (by intro u hu;simp [Value.cells] at hu;subst hu;rfl) rfl ?_;intro W1 hp)
    |go_values|go_skip|go_guarded|(with_reducible refine wg ?_)|go_step|go_upon)
   (try simp only [Exit.inBlock,Exit.then]);refine bodyPost_ret (res_cell_tmp Tryz.results153 aggWay rfl hp.at_ rfl) rfl ?_
   exact ⟨rfl,Below.put HB.out hp (Nat.le_refl _)⟩
 by_cases h11:n=11
 · subst h11
   rw [way_11]
   dsimp only
   go_enter Tryz.func153,Tryz.ntmps153
   repeat' (first
    |(rw [hW0];clear hW0)
    |(refine wpList_store (t:=243) (v:=.agg #[(.func (.func 188) #[] #[])]) (off:=0) (new:=#[(.func (.func 188) #[] #[])]) rfl rfl rfl rfl aggWay.size HQ.out rfl (show 0 + 1≤1 by decide) (by intro u hu;simp [Value.cells] at hu;subst hu;rfl) rfl ?_;intro W1 hp)
    |go_values|go_skip|go_guarded|(with_reducible refine wg ?_)|go_step|go_upon)
   (try simp only [Exit.inBlock,Exit.then]);refine bodyPost_ret (res_cell_tmp Tryz.results153 aggWay rfl hp.at_ rfl) rfl ?_
   exact ⟨rfl,Below.put HB.out hp (Nat.le_refl _)⟩
 by_cases h12:n=12
 · subst h12
   rw [way_12]
   dsimp only
   go_enter Tryz.func153,Tryz.ntmps153
   repeat' (first
    |(rw [hW0];clear hW0)
    |(refine wpList_store (t:=243) (v:=.agg #[(.func (.func 189) #[] #[])]) (off:=0) (new:=#[(.func (.func 189) #[] #[])]) rfl rfl rfl rfl aggWay.size HQ.out rfl (show 0 + 1≤1 by decide) (by intro u hu;simp [Value.cells] at hu;subst hu;rfl) rfl ?_;intro W1 hp)
    |go_values|go_skip|go_guarded|(with_reducible refine wg ?_)|go_step|go_upon)
   (try simp only [Exit.inBlock,Exit.then]);refine bodyPost_ret (res_cell_tmp Tryz.results153 aggWay rfl hp.at_ rfl) rfl ?_
   exact ⟨rfl,Below.put HB.out hp (Nat.le_refl _)⟩
 by_cases h13:n=13
 · subst h13
   rw [way_13]
   dsimp only
   go_enter Tryz.func153,Tryz.ntmps153
   repeat' (first
    |(rw [hW0];clear hW0)
    |(refine wpList_store (t:=243) (v:=.agg #[(.func (.func 190) #[] #[])]) (off:=0) (new:=#[(.func (.func 190) #[] #[])]) rfl rfl rfl rfl aggWay.size HQ.out rfl (show 0 + 1≤1 by decide) (by intro u hu;simp [Value.cells] at hu;subst hu;rfl) rfl ?_;intro W1 hp)
    |go_values|go_skip|go_guarded|(with_reducible refine wg ?_)|go_step|go_upon)
   (try simp only [Exit.inBlock,Exit.then]);refine bodyPost_ret (res_cell_tmp Tryz.results153 aggWay rfl hp.at_ rfl) rfl ?_
   exact ⟨rfl,Below.put HB.out hp (Nat.le_refl _)⟩
 by_cases h14:n=14
 · subst h14
   rw [way_14]
   dsimp only
   go_enter Tryz.func153,Tryz.ntmps153
   repeat' (first
    |(rw [hW0];clear hW0)
    |(refine wpList_store (t:=243) (v:=.agg #[(.func (.func 191) #[] #[])]) (off:=0) (new:=#[(.func (.func 191) #[] #[])]) rfl rfl rfl rfl aggWay.size HQ.out rfl (show 0 + 1≤1 by decide) (by intro u hu;simp [Value.cells] at hu;subst hu;rfl) rfl ?_;intro W1 hp)
    |go_values|go_skip|go_guarded|(with_reducible refine wg ?_)|go_step|go_upon)
   (try simp only [Exit.inBlock,Exit.then]);refine bodyPost_ret (res_cell_tmp Tryz.results153 aggWay rfl hp.at_ rfl) rfl ?_
   exact ⟨rfl,Below.put HB.out hp (Nat.le_refl _)⟩
 by_cases h15:n=15
 · subst h15
   rw [way_15]
   dsimp only
   go_enter Tryz.func153,Tryz.ntmps153
   repeat' (first
    |(rw [hW0];clear hW0)
    |(refine wpList_store (t:=243) (v:=.agg #[(.func (.func 192) #[] #[])]) (off:=0) (new:=#[(.func (.func 192) #[] #[])]) rfl rfl rfl rfl aggWay.size HQ.out rfl (show 0 + 1≤1 by decide) (by intro u hu;simp [Value.cells] at hu;subst hu;rfl) rfl ?_;intro W1 hp)
    |go_values|go_skip|go_guarded|(with_reducible refine wg ?_)|go_step|go_upon)
   (try simp only [Exit.inBlock,Exit.then]);refine bodyPost_ret (res_cell_tmp Tryz.results153 aggWay rfl hp.at_ rfl) rfl ?_
   exact ⟨rfl,Below.put HB.out hp (Nat.le_refl _)⟩
 by_cases h16:n=16
 · subst h16
   rw [way_16]
   dsimp only
   go_enter Tryz.func153,Tryz.ntmps153
   repeat' (first
    |(rw [hW0];clear hW0)
    |(refine wpList_store (t:=243) (v:=.agg #[(.func (.func 193) #[] #[])]) (off:=0) (new:=#[(.func (.func 193) #[] #[])]) rfl rfl rfl rfl aggWay.size HQ.out rfl (show 0 + 1≤1 by decide) (by intro u hu;simp [Value.cells] at hu;subst hu;rfl) rfl ?_;intro W1 hp)
    |go_values|go_skip|go_guarded|(with_reducible refine wg ?_)|go_step|go_upon)
   (try simp only [Exit.inBlock,Exit.then]);refine bodyPost_ret (res_cell_tmp Tryz.results153 aggWay rfl hp.at_ rfl) rfl ?_
   exact ⟨rfl,Below.put HB.out hp (Nat.le_refl _)⟩
 rw [way_no h4 h6 h9 h10 h11 h12 h13 h14 h15 h16]
 dsimp only
 have g4:(n==4)=false:=by simp [h4]
 have g6:(n==6)=false:=by simp [h6]
 have g9:(n==9)=false:=by simp [h9]
 have g10:(n==10)=false:=by simp [h10]
 have g11:(n==11)=false:=by simp [h11]
 have g12:(n==12)=false:=by simp [h12]
 have g13:(n==13)=false:=by simp [h13]
 have g14:(n==14)=false:=by simp [h14]
 have g15:(n==15)=false:=by simp [h15]
 have g16:(n==16)=false:=by simp [h16]
 go_enter Tryz.func153,Tryz.ntmps153
 repeat' (first
  |(rw [hW0];clear hW0)
  |(refine wpList_store (t:=243) (v:=.agg #[.nilFunc]) (off:=0) (new:=#[.nilFunc]) rfl rfl rfl rfl aggWay.size HQ.out rfl (show 0 + 1≤1 by decide) (by intro u hu;simp [Value.cells] at hu;subst hu;rfl) rfl ?_;intro W1 hp)
  |go_values|go_skip|go_guarded|(with_reducible refine wg ?_)|go_step|go_upon)
 (try simp only [Exit.inBlock,Exit.then]);refine bodyPost_ret (res_cell_tmp Tryz.results153 aggWay rfl hp.at_ rfl) rfl ?_
 exact ⟨rfl,Below.put HB.out hp (Nat.le_refl _)⟩
end Kn
end Go.Proofs.YtkepkcjjenidgaaGreatDoor
namespace Go.Proofs.YtkepkcjjenidgaaGreatDoor
open Go.RowKit KR RegT3
namespace Kn
theorem oneByteC (a:Int) (W:World) (g:Nat) (h:W.heap[g]? =some (.cells #[.int .u8 (IntKind.u8.wrap a)] 5 (0,0))):(convert 277 9 (.slice (some ⟨g,0,none⟩) 1 1)).run Tryz.prog W=.ok (.string (oneByte a)) W:=by
 refine run_convert_bytes_back (P:=Tryz.prog) _ _ _ 5 ⟨g,0,none⟩ 1 [UInt8.ofNat (a % 256).toNat] Tryz.underlying277 Tryz.underlying5 Tryz.underlying9 fun j hj=> ?_
 have hj0:j=0:=by simp at hj;exact hj
 subst hj0
 have hv:((UInt8.ofNat (a % 256).toNat).toNat:Int)=IntKind.u8.wrap a:=by
  rw [UInt8.toNat_ofNat']
  show ((((a % 256).toNat % 256:Nat)):Int)=a % 256
  omega
 show W.cell? ⟨g,0,none⟩=some (.int .u8 ((UInt8.ofNat (a % 256).toNat).toNat:Int))
 rw [hv]
 exact hcell h 0
theorem WPid (b:Nat) (k:Kern) (p:Proc) (x:Call) (w:World) (hk:WorkAt w b k):
 Calls Tryz.prog 185 #[.pointer (some ⟨b,0,none⟩),.agg p.cells,.agg x.cells] w (GivesW b (.tuple #[.int .u32 ((⟨k,p.pid % 4294967296,0⟩:Tried)).v,.int .i64 ((⟨k,p.pid % 4294967296,0⟩:Tried)).e]) ((⟨k,p.pid % 4294967296,0⟩:Tried)).k w):=by
 obtain ⟨y,bs,hk0,hl⟩:=hk
 have hbl:=hlt hk0
 obtain ⟨W0,hW0,HK_0,HP_0,HX_0,HE_0,HL_0,hz0,hzK,hzP,hzX⟩:=st2 p.cells 167 x.cells 165 hk0 hl
 have kP:W0.cell? ⟨w.heap.size,0,none⟩=some (.int .i64 p.pid):=hcell HP_0.out 0
 go_enter Tryz.func185,Tryz.ntmps185
 repeat' (first
  |(rw [hW0];clear hW0)
  |go_values|go_skip|go_guarded|(with_reducible refine wg ?_)|go_step|go_upon)
 go_ret2
 exact ⟨rfl,⟨_,_,HK_0.out,HL_0.out⟩,HE_0.out⟩
theorem WTime (b:Nat) (k:Kern) (p:Proc) (x:Call) (w:World) (hk:WorkAt w b k):
 Calls Tryz.prog 186 #[.pointer (some ⟨b,0,none⟩),.agg p.cells,.agg x.cells] w (GivesW b (.tuple #[.int .u32 ((⟨k,k.now % 4294967296,0⟩:Tried)).v,.int .i64 ((⟨k,k.now % 4294967296,0⟩:Tried)).e]) ((⟨k,k.now % 4294967296,0⟩:Tried)).k w):=by
 obtain ⟨y,bs,hk0,hl⟩:=hk
 have hbl:=hlt hk0
 obtain ⟨W0,hW0,HK_0,HP_0,HX_0,HE_0,HL_0,hz0,hzK,hzP,hzX⟩:=st2 p.cells 167 x.cells 165 hk0 hl
 have kN:W0.cell? ⟨b,7,none⟩=some (.int .u64 k.now):=hcell HK_0.out 7
 go_enter Tryz.func186,Tryz.ntmps186
 repeat' (first
  |(rw [hW0];clear hW0)
  |go_values|go_skip|go_guarded|(with_reducible refine wg ?_)|go_step|go_upon)
 go_ret2
 exact ⟨rfl,⟨_,_,HK_0.out,HL_0.out⟩,HE_0.out⟩
theorem WPutc (b:Nat) (k:Kern) (p:Proc) (x:Call) (w:World) (hk:WorkAt w b k) (hcs:k.cons.size≤1000000000):
 Calls Tryz.prog 187 #[.pointer (some ⟨b,0,none⟩),.agg p.cells,.agg x.cells] w (GivesW b (.tuple #[.int .u32 ((⟨{k with cons:=k.cons ++ oneByte x.a},0,0⟩:Tried)).v,.int .i64 ((⟨{k with cons:=k.cons ++ oneByte x.a},0,0⟩:Tried)).e]) ((⟨{k with cons:=k.cons ++ oneByte x.a},0,0⟩:Tried)).k w):=by
 obtain ⟨y,bs,hk0,hl⟩:=hk
 have hbl:=hlt hk0
 obtain ⟨W0,hW0,HK_0,HP_0,HX_0,HE_0,HL_0,hz0,hzK,hzP,hzX⟩:=st2 p.cells 167 x.cells 165 hk0 hl
 go_enter Tryz.func187,Tryz.ntmps187
 repeat' (first
  |(rw [hW0];clear hW0)
  |go_values|go_skip|go_guarded|(with_reducible refine wg ?_)|go_step|go_upon)
 refine wp_region_noPanic ?_
 refine go0 (S:=fun W=> (W.cell? ⟨b,12,none⟩=some (.string k.cons))∧(W.cell? ⟨w.heap.size + 1,1,none⟩=some (.int .u32 x.a))) [14] (⟨hcell HK_0.out 12,hcell HX_0.out 1⟩) fun hS=> ?_
 obtain ⟨W1,hWd⟩:=exW W0.drew
 have HK_1:=dB hWd HK_0
 have HP_1:=dB hWd HP_0
 have HX_1:=dB hWd HX_0
 have HE_1:=dE hWd HE_0
 have HL_1:=dL hWd HL_0
 rw [hWd] at hS ⊢
 clear hWd
 clear HK_0 HP_0 HX_0 HE_0 HL_0
 refine tp 0 ?_;try simp only [acts]
 refine tp 1 ?_;try simp only [acts]
 refine tp 2 ?_;try simp only [acts]
 refine tp 3 ?_;try simp only [acts]
 refine tl 4 ?_;try simp only [acts]
 refine tp 5 ?_;try simp only [acts]
 refine tl 6 ?_;try simp only [acts]
 refine tp 7 ?_;try simp only [acts]
 refine ro 8 fun K hK=> ?_
 go_simp
 obtain ⟨W2,hWn,hba,hnw⟩:=nb2 W1 (.cells #[.int .u8 (IntKind.u8.wrap x.a)] 5)
 rw [hWn]
 clear hWn
 have HK_2:=nB hba HK_1
 have HP_2:=nB hba HP_1
 have HX_2:=nB hba HX_1
 have HE_2:=nE hba HE_1
 have HL_2:=nL hba HL_1
 clear HK_1 HP_1 HX_1 HE_1 HL_1
 clear hba
 try clear hS
 refine nx hK (⟨hcell HK_2.out 12,hcell HX_2.out 1⟩) fun hS=> ?_
 clear hK K
 (try simp only [acts])
 have HC:=oneByteC x.a W2 W1.heap.size hnw
 refine ro 9 fun K hK=> ?_
 go_simp
 clear HC
 try clear hS
 refine nx hK (⟨hcell HK_2.out 12,hcell HX_2.out 1⟩) fun hS=> ?_
 clear hK K
 (try simp only [acts])
 have hlen:¬ (9223372036854775807<k.cons.size + (oneByte x.a).size):=by rw [show (oneByte x.a).size=1 from rfl];omega
 refine ro 10 fun K hK=> ?_
 go_simp
 try clear hS
 refine nx hK (⟨hcell HK_2.out 12,hcell HX_2.out 1⟩) fun hS=> ?_
 clear hK K
 (try simp only [acts])
 refine tp 11 ?_;try simp only [acts]
 refine tp 12 ?_;try simp only [acts]
 refine tp 13 ?_;try simp only [acts]
 refine ro 14 fun K hK=> ?_
 refine want rfl ?_
 refine wp_store1 (v:=.string (k.cons ++ oneByte x.a)) (off:=12) (new:=kcells y {k with cons:=k.cons ++ oneByte x.a}) rfl rfl rfl oneStr HK_2.out rfl rfl (show 12 + 1≤17 by decide) rfl ?_
 intro W3 hp
 have HL_3:Hid (LayAt W3 y bs {k with cons:=k.cons ++ oneByte x.a}):=hU ((HL_2.out.setCons (k.cons ++ oneByte x.a)).put HK_2.out noWork hp)
 have HE_3:=pK hp HE_2
 have HK_3:Hid (W3.heap[b]? =some (.cells (kcells y {k with cons:=k.cons ++ oneByte x.a}) 178 (0,0))):=pA hp
 have HP_3:=pT hp HK_2 HP_2
 have HX_3:=pT hp HK_2 HX_2
 clear hp
 clear HK_2 HP_2 HX_2 HE_2 HL_2
 refine nt hK ?_
 clear hK K
 try clear hS
 (try simp only [acts])
 refine doneL (by kernel_rfl) (NoPanic.normal ?_) _
 try clear hS
 repeat' (first|go_values|go_skip|go_guarded|(with_reducible refine wg ?_)|go_step|go_upon)
 go_ret2
 exact ⟨rfl,⟨_,_,HK_3.out,HL_3.out⟩,HE_3.out⟩
end Kn
end Go.Proofs.YtkepkcjjenidgaaGreatDoor
