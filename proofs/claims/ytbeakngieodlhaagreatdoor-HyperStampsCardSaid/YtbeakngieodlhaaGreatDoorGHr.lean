/- The helpers of hyper's laws: few, most; a machine that begins is right and small. Conditions: as told. -/
import Derived.Test.YtbeakngieodlhaaGreatDoorHySt1
import Derived.Test.YtbeakngieodlhaaGreatDoorHySt2
set_option linter.unusedVariables false
set_option maxRecDepth 100000
set_option maxHeartbeats 8000000
set_option linter.unusedSimpArgs false
namespace Go.Proofs.YtbeakngieodlhaaGreatDoor
open Tryz
open Go.RowKit KR Kn
namespace Hy
theorem boot_want (mem:Int) (images:List ByteArray) (outs ins:List Chan) (now:Int):(boot mem images outs ins now).want=0:=by
 unfold boot
 dsimp only
 repeat' split
 all_goals first|rfl|exact (fresh_sent _ _).2
theorem sbegin_want (x:Part) (images:List ByteArray) (outs ins:List Chan):(sbegin x images outs ins).k.want=0:=by
 unfold sbegin
 rw [(slooks_sent _ _).2]
 exact boot_want _ _ _ _ _
theorem mbegin_good {P:Pl.Plan} {l:List (List ByteArray)} (hc:Pl.check P=0) (hl:∀ r ∈ l,r.length≤8):MGood 0 (mbegin P l)∧Wants (mbegin P l):=by
 obtain ⟨h1,h2,h3,h4,h5,h6,_⟩:=Pl.check_zero hc
 have hcs:(chans P).length≤6:=by unfold chans;rw [List.length_map];exact h5
 refine ⟨⟨hc,?_,?_,fun s hs=> ?_,fun a ha=> ?_,?_,Int.le_refl _,?_,Int.le_refl _,Int.le_refl _⟩,fun s hs=> ?_⟩
 · show (List.map _ _).length=_
   rw [List.length_map,List.length_range]
   rfl
 · exact List.length_replicate
 · obtain ⟨i,_,rfl⟩:=List.mem_map.1 hs
   refine sbegin_good (g:=⟨partOf (P.ps.getD i []),l.getD i [],outsOf (chans P) i,insOf (chans P) i⟩) ⟨?_,?_,?_,part_ok hc i⟩
   · show (l.getD i []).length≤8
     rw [List.getD_eq_getElem?_getD]
     cases h:l[i]? with
     |none=> decide
     |some r=> exact hl r (List.mem_of_getElem? h)
   · exact Nat.le_trans (List.length_filter_le _ _) (by omega)
   · exact Nat.le_trans (List.length_filter_le _ _) (by omega)
 · obtain rfl:=List.eq_of_mem_replicate ha
   exact Nat.le_refl _
 · show 0<P.ws.length
   omega
 · show (0:Int)<P.ws.length
   omega
 · obtain ⟨i,_,rfl⟩:=List.mem_map.1 hs
   rw [sbegin_want]
   decide
def fewI (l:List (List ByteArray)):Bool:=l.all (fun r=> decide (r.length≤8)) && decide (l.length≤8)
theorem fewI_mem {l:List (List ByteArray)} (h:fewI l=true):∀ r ∈ l,r.length≤8:=by
 unfold fewI at h
 rw [Bool.and_eq_true,List.all_eq_true] at h
 intro r hr
 simpa using h.1 r hr
theorem fewI_no {l:List (List ByteArray)} {i:Nat} {r:List ByteArray} (h:l[i]? =some r) (hr:8<r.length):fewI l=false:=by
 unfold fewI
 rw [Bool.and_eq_false_iff]
 left
 rw [List.all_eq_false]
 exact ⟨r,List.mem_of_getElem? h,by simpa using hr⟩
def most (k n:Int):Int:=if k<n then k else n
theorem HMost (n:Int) (w:World):Calls prog 30 #[.int .i64 n] w (Is (.int .i64 (most 300 n)) w):=by
 unfold most
 by_cases h:300<n
 · rw [if_pos h]
   go_in
   refine sg ?_;intros
   go_ret
   exact ⟨rfl,rfl⟩
 · rw [if_neg h]
   go_in
   refine sg ?_;intros
   go_ret
   exact ⟨rfl,rfl⟩
def FewR (l:List (List ByteArray)) (w:World) (iv:Value) (W:World):Prop:=∃ i:Nat,i≤l.length∧iv=.int .i64 i∧W=w∧∀ k r,k<i→l[k]? =some r→r.length≤8
theorem HFew (v:Value) (l:List (List ByteArray)) (w:World) (h:ImgAt w v l):Calls prog 29 #[v] w (Is (.bool (fewI l)) w):=by
 obtain ⟨a,c,rfl,hlc,hmax,hh⟩:=h
 have hl63:l.length≤9223372036854775807:=by omega
 have HH:=hU hh
 clear hh hlc
 go_in
 refine sg ?_;intros
 go_loopw [3] (fun iv wr=> FewR l w iv wr) (fun iv _=> l.length - (intOf iv).toNat)
 case atStart=> exact ⟨0,Nat.zero_le _,rfl,rfl,fun k r hk=> by omega⟩
 case round=>
  obtain ⟨i,hi,rfl,rfl,hall⟩:=hrel
  have HA:=hU hall
  clear hall
  have i0:(0:Int)≤(i:Int):=by omega
  by_cases hil:i<l.length
  · have e1:decide ((i:Int)<(l.length:Int))=true:=by simp;omega
    have e2:decide (i<l.length)=true:=by simp;omega
    have e3:(i:Int)<(l.length:Int):=by omega
    have e4:IntKind.i64.wrap ((i:Int) + 1)=(i:Int) + 1:=by rw [IntKind.wrap_i64];omega
    obtain ⟨r,hr⟩:∃ r,l[i]? =some r:=⟨_,List.getElem?_eq_getElem hil⟩
    rcases HH.out with rfl|⟨b,off,rfl,hb,hc⟩
    · simp at hil
    · obtain ⟨u,hu,hur⟩:=hc i r hr
      obtain ⟨a2,c2,rfl,_,_⟩:=hur.shape
      have HR:=hU hr
      clear hc hur hr
      by_cases h8:8<r.length
      · have e5:decide ((8:Int)<(r.length:Int))=true:=by simp;omega
        have e6:decide (8<r.length)=true:=by simp;omega
        have HF:=hU (fewI_no HR.out h8)
        refine sg ?_;intros
        go_ret
        rw [HF.out]
        exact ⟨rfl,rfl⟩
      · have e5:decide ((8:Int)<(r.length:Int))=false:=by simp;omega
        have e6:decide (8<r.length)=false:=by simp;omega
        refine sg ?_;intros
        refine ⟨⟨i + 1,by omega,by go_num,rfl,fun k r' hk hk2=> ?_⟩,by simp [intOf];omega⟩
        by_cases hki:k=i
        · subst hki
          rw [HR.out] at hk2
          obtain rfl:=Option.some.inj hk2
          omega
        · exact HA.out k r' (by omega) hk2
  · have e1:decide ((i:Int)<(l.length:Int))=false:=by simp;omega
    have e2:decide (i<l.length)=false:=by simp;omega
    have hF:fewI l=decide ((l.length:Int)≤8):=by
     unfold fewI
     have:l.all (fun r=> decide (r.length≤8))=true:=List.all_eq_true.2 fun r hr=> by
      obtain ⟨k,hk⟩:=List.getElem?_of_mem hr
      simpa using HA.out k r (by have:=(List.getElem?_eq_some_iff.1 hk).1;omega) hk
     rw [this,Bool.true_and]
     simp
     omega
    have HF:=hU hF
    clear hF
    refine sg ?_;intros
    go_ret
    refine ⟨?_,rfl⟩
    rw [HF.out]
    first|rfl|simp
end Hy
end Go.Proofs.YtbeakngieodlhaaGreatDoor
namespace Go.Proofs.YtbeakngieodlhaaGreatDoor
open Tryz
open Go.RowKit KR Kn RegT3
namespace Hy
theorem HStep (y:YL) (m:Mach) (n:Nat) (w:World) (h:SysAt w y m) (hg:MGood n m) (hw:Wants m) (hn:n + 15≤50000) (hT:Tab w):
 Calls prog 32 #[.agg (ycells y m)] w (GivesZ y (mstep m) w):=by
 have hc:CycOk n (wAt m.p m.sched m.now).1.toNat (mwin m):=cyc_ok hg.win hw.win hn
 have hn':n≤50000:=by omega
 rcases (by cases wStarts m.p m.sched m.now <;> simp:wStarts m.p m.sched m.now=true∨wStarts m.p m.sched m.now=false) with hws|hws
 · by_cases hp:(wAt m.p m.sched m.now).2=2
   · by_cases hst:∀ s,(mwin m).seats[(wAt m.p m.sched m.now).1.toNat]? =some s→s.st=1
     · exact HStepA y m n w h hg hn' hc hT hws hp hst
     · refine HStepB y m n w h hg hn' hc hT hws hp fun s hs h1=> hst fun t ht=> ?_
       rw [hs] at ht
       obtain rfl:=Option.some.inj ht
       exact h1
   · exact HStepC y m n w h hg hn' hc hT hws hp fun _ _=> trivial
 · by_cases hp:(wAt m.p m.sched m.now).2=2
   · by_cases hst:∀ s,(mwin m).seats[(wAt m.p m.sched m.now).1.toNat]? =some s→s.st=1
     · exact HStepD y m n w h hg hn' hc hT hws hp hst
     · refine HStepE y m n w h hg hn' hc hT hws hp fun s hs h1=> hst fun t ht=> ?_
       rw [hs] at ht
       obtain rfl:=Option.some.inj ht
       exact h1
   · exact HStepF y m n w h hg hn' hc hT hws hp fun _ _=> trivial
end Hy
end Go.Proofs.YtbeakngieodlhaaGreatDoor
namespace Go.Proofs.YtbeakngieodlhaaGreatDoor
open Tryz
open Go.RowKit KR Kn
namespace Hy
theorem mrun_add (a:Nat):∀ (b:Nat) (m:Mach),mrun (a + b) m=mrun b (mrun a m):=by
 induction a with
 |zero=> intro b m;rw [Nat.zero_add];rfl
 |succ a ih=> intro b m;rw [Nat.add_right_comm];exact ih b (mstep m)
theorem mrun_succ (n:Nat) (m:Mach):mrun (n + 1) m=mstep (mrun n m):=mrun_add n 1 m
theorem mown_frame (m:Mach):(mown m).p=m.p∧(mown m).sched=m.sched∧(mown m).now=m.now:=by
 obtain ⟨e1,e2,_,e3,_⟩:=mwin_p m
 unfold mown
 split
 · split
   · split
     · obtain ⟨f1,f2,f3⟩:=mcycle_frame (wAt m.p m.sched m.now).1.toNat (mwin m)
       exact ⟨f1.trans e1,f2.trans e2,f3.trans e3⟩
     · exact ⟨e1,e2,e3⟩
   · exact ⟨e1,e2,e3⟩
 · exact ⟨e1,e2,e3⟩
theorem mstep_p (m:Mach):(mstep m).p=m.p:=by
 have h:=(mown_frame m).1
 unfold mstep mtick
 split <;> exact h
theorem mstep_now (m:Mach):(mstep m).now=m.now + 1:=by
 have h:=(mown_frame m).2.2
 unfold mstep mtick
 split
 · show (mown m).now + 1=_
   rw [h]
 · show (mown m).now + 1=_
   rw [h]
theorem mrun_p:∀ (n:Nat) (m:Mach),(mrun n m).p=m.p
 |0,_=> rfl
 |n + 1,m=> (mrun_p n (mstep m)).trans (mstep_p m)
def RunH (w:World) (y:YL) (m:Mach) (n:Nat) (iv:Value) (W:World):Prop:=∃ (i:Nat) (y':YL),i≤n∧iv=.int .i64 i∧W.heap[w.heap.size]? =some (.cells (ycells y' (mrun i m)) 61 (0,0))∧SysAt W y' (mrun i m)∧(y'.vp=y.vp∧y'.vw=y.vw∧y'.vc=y.vc∧y'.im=y.im)∧
 (∃ z,z.size=11∧W.heap[w.heap.size + 1]? =some (.cells z 61 (0,0)))∧Below w.heap.size w W
theorem HRun (y:YL) (m:Mach) (k:Nat) (j:Nat) (n:Int) (w:World) (h:SysAt w y m) (hg:MGood k m) (hw:Wants m) (hn:j=n.toNat) (hk:k + 15 * j≤50000) (hT:Tab w):
 Calls prog 21 #[.agg (ycells y m),.int .i64 n] w (GivesZ y (mrun j m) w):=by
 have HMX:Hid (max n 0=(j:Int)):=hU (by omega)
 clear hn
 obtain ⟨q0,q1⟩:=two_new w w.heap.size (.cells (ycells y m) 61) (.cells zSy 61) rfl
 have hb0:Below w.heap.size w ((w.alloc (.cells (ycells y m) 61)).alloc (.cells zSy 61)):=bel
 obtain ⟨W0,hW0⟩:=exW ((w.alloc (.cells (ycells y m) 61)).alloc (.cells zSy 61))
 rw [hW0] at q0 q1 hb0
 have hl0:=h.below hb0
 have HP:Hid (∀ W,Below w.heap.size w W→∀ i,PlanR W y.vp y.vw y.vc (mrun i m).p):=hU (fun W hb i=> by rw [mrun_p];exact h.pl.below hb)
 have HT:=hU (fun W (h:Below w.heap.size w W)=> hT.below h)
 have HG:Hid (∀ i,i≤j→MGood (k + 15 * i) (mrun i m)∧Wants (mrun i m)):=hU (fun i hi=> hg.run hw (by omega))
 clear h hT hg hw
 go_in
 repeat' (first
  |(rw [hW0];clear hW0)
  |go_values|go_skip|go_guarded|refine wg ?_|go_step|go_upon)
 rw [HMX.out]
 clear HMX
 go_loopw [7] (fun iv wr=> RunH w y m j iv wr) (fun iv _=> j - (intOf iv).toNat)
 case atStart=> exact ⟨0,y,Nat.zero_le _,rfl,q0,hl0,⟨rfl,rfl,rfl,rfl⟩,⟨_,rfl,q1⟩,hb0⟩
 case round=>
  clear q0 q1 hb0 hl0
  obtain ⟨i,y1,hi,rfl,hA,hl,hv,⟨z,hz,hRR⟩,hb⟩:=hrel
  have HA:=hU hA
  have HL:=hU hl
  have HZ:=hU hRR
  have HB:=hU hb
  have HV:=hU hv
  have hzb:=hb.size
  have hza:=hlt hA
  have HPV:Hid (∀ W,Below w.heap.size w W→PlanR W y1.vp y1.vw y1.vc (mrun i m).p):=hU (fun W hb=> by rw [hv.1,hv.2.1,hv.2.2.1];exact HP.out W hb i)
  clear hA hl hRR hb hv
  by_cases hil:i<j
  · repeat' (first
     |(refine wpList_load (t:=61) (v:=.agg (ycells y1 (mrun i m))) rfl rfl rfl (run_load_whole aggSys HA.out rfl) ?_)
     |go_values|go_skip|go_guarded|refine wg ?_|go_step|go_upon)
    obtain ⟨hg1,hw1⟩:=HG.out i hi
    refine (HStep y1 (mrun i m) (k + 15 * i) _ HL.out hg1 hw1 (by omega) (HT.out _ HB.out)).mono ?_
    clear hg1 hw1
    rintro er W1 ⟨y2,rfl,hl1,hv2,hb1⟩
    have HA1:=hU ((hb1.block _ (hlt HA.out)).trans HA.out)
    have HZ1:=hU ((hb1.block _ (hlt HZ.out)).trans HZ.out)
    have HB1:=hU (HB.out.trans (hb1.mono hzb))
    have HL1:=hU hl1
    have HV2:Hid (y2.vp=y.vp∧y2.vw=y.vw∧y2.vc=y.vc∧y2.im=y.im):=hU ⟨hv2.1.trans HV.out.1,hv2.2.1.trans HV.out.2.1,hv2.2.2.1.trans HV.out.2.2.1,hv2.2.2.2.trans HV.out.2.2.2⟩
    have HPV2:Hid (∀ W,Below w.heap.size w W→PlanR W y2.vp y2.vw y2.vc (mstep (mrun i m)).p):=hU (fun W hb=> by rw [HV2.out.1,HV2.out.2.1,HV2.out.2.2.1,← mrun_succ];exact HP.out W hb (i + 1))
    clear hb1 hl1 HA HZ HB HL HV HPV hv2
    dsimp only
    repeat' (first
     |(refine sN 61 (.agg (ycells y2 (mstep (mrun i m)))) 0 (ycells y2 (mstep (mrun i m))) aggSys.size HA1.out (onesY HL1.out) fun W2 hp=> ?_
       have HA2:=hU hp.at_
       have HZ2:=hU ((hp.oth (w.heap.size + 1) (by omega)).trans HZ1.out)
       have HB2:=hU (Below.put HB1.out hp (Nat.le_refl _))
       have HL2:=hU (HL1.out.put HA1.out hp (HPV2.out _ HB2.out) noSys (by decide) (by decide) (by decide))
       clear hp)
     |go_values|go_skip|go_guarded|refine wg ?_|go_step|go_upon)
    exact ⟨⟨i + 1,y2,by omega,by go_num,by rw [mrun_succ];exact HA2.out,by rw [mrun_succ];exact HL2.out,HV2.out,⟨z,hz,HZ2.out⟩,HB2.out⟩,by simp [intOf];omega⟩
  · obtain rfl:i=j:=by omega
    repeat' (first
     |(refine wpList_load (t:=61) (v:=.agg (ycells y1 (mrun i m))) rfl rfl rfl (run_load_whole aggSys HA.out rfl) ?_)
     |(refine wpList_store (t:=61) (v:=.agg (ycells y1 (mrun i m))) (off:=0) (new:=ycells y1 (mrun i m)) rfl rfl rfl rfl aggSys.size HZ.out rfl (by rw [hz];decide) (onesY HL.out) (splice_whole (by rw [hz];rfl)) ?_;intro W2 hp
       have HZ2:=hU hp.at_
       have HB2:=hU (Below.put HB.out hp (Nat.le_succ _))
       have HL2:=hU (HL.out.put HZ.out hp (HPV.out _ HB2.out) noSys (by decide) (by decide) (by decide))
       clear hp)
     |go_values|go_skip|go_guarded|refine wg ?_|go_step|go_upon)
    (try simp only [Exit.inBlock,Exit.then]);refine bodyPost_ret (res_cell results21 aggSys rfl HZ2.out rfl) rfl ?_
    exact ⟨_,rfl,HL2.out,HV.out,HB2.out⟩
end Hy
end Go.Proofs.YtbeakngieodlhaaGreatDoor
