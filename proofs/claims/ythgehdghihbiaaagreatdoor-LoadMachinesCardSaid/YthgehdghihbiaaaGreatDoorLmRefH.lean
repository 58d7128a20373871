/- The reference's guest of images, and a seat that begins. Conditions: rows as they are read; few. -/
import Derived.Test.YthgehdghihbiaaaGreatDoorGLmA
import Derived.Test.YthgehdghihbiaaaGreatDoorKwBoot
set_option linter.unusedVariables false
set_option maxRecDepth 100000
set_option maxHeartbeats 8000000
set_option linter.unusedSimpArgs false
namespace Go.Proofs.YthgehdghihbiaaaGreatDoor
open Go.RowKit KR Kn RegT3
namespace Rf
theorem fresh_yes {k:Kern} (hp:k.p=[]) (ht:k.t=⟨[],0⟩) (hpi:k.pipes=[]) (hh:k.h=[]) (h64:64≤k.hs) (m:ByteArray):freshE k=0∧fresh k {Proc.zero with mem:=m}={k with h:=[⟨0,64,1⟩],pipes:=[],p:=[born {Proc.zero with mem:=m} 1],t:=⟨[1],5⟩}:=by
 have e:htakeE k.hs [] 64 (next [])=([⟨0,64,1⟩],0):=by
  unfold htakeE
  rw [if_neg (by unfold hright hrightFrom;simp;omega)]
  unfold htake hhole
  rw [if_pos (by omega)]
  rfl
 unfold freshE fresh
 rw [hp,hh,hpi,ht,e]
 exact ⟨rfl,rfl⟩
theorem fresh_no {k:Kern} (hp:k.p=[]) (hh:k.h=[]) (h0:0≤k.hs) (h64:k.hs<64) (p:Proc):freshE k=5∧fresh k p=k:=by
 have e:htakeE k.hs [] 64 (next [])=([],5):=by
  unfold htakeE
  rw [if_neg (by unfold hright hrightFrom;simp;omega)]
  unfold htake hhole
  rw [if_neg (by omega)]
 unfold freshE fresh
 rw [hp,hh,e]
 exact ⟨rfl,rfl⟩
def k0of (mem:Int) (images:List ByteArray) (outs ins:List Chan) (now:Int):Kern:={p:=[],t:=⟨[],0⟩,s:=[],pipes:=[],hs:=if mem<0 then 0 else mem,h:=[],now:=now,images:=images,outs:=outs,ins_:=ins,box:=List.replicate ins.length ⟨[],0⟩,cons:=⟨#[]⟩,trace:=[],sent:=[],want:=0,gone:=0}
theorem boot_eq (mem:Int) (images:List ByteArray) (outs ins:List Chan) (now:Int):boot mem images outs ins now=
 if (if imageE (k0of mem images outs ins now) 0=0 then freshE (k0of mem images outs ins now) else imageE (k0of mem images outs ins now) 0)=0 then (if imageE (k0of mem images outs ins now) 0=0 then fresh (k0of mem images outs ins now) {Proc.zero with mem:=imageM (k0of mem images outs ins now) 0} else k0of mem images outs ins now)
 else {(if imageE (k0of mem images outs ins now) 0=0 then fresh (k0of mem images outs ins now) {Proc.zero with mem:=imageM (k0of mem images outs ins now) 0} else k0of mem images outs ins now) with gone:=1}:=rfl
theorem boot_bad {mem:Int} {images:List ByteArray} {outs ins:List Chan} {now:Int} (h:imageE (k0of mem images outs ins now) 0 ≠ 0):boot mem images outs ins now={k0of mem images outs ins now with gone:=1}:=by
 rw [boot_eq,if_neg h,if_neg h,if_neg h]
theorem boot_yes {mem:Int} {images:List ByteArray} {outs ins:List Chan} {now:Int} (h:imageE (k0of mem images outs ins now) 0=0) (h64:64≤(k0of mem images outs ins now).hs):boot mem images outs ins now={k0of mem images outs ins now with h:=[⟨0,64,1⟩],pipes:=[],p:=[born {Proc.zero with mem:=imageM (k0of mem images outs ins now) 0} 1],t:=⟨[1],5⟩}:=by
 obtain ⟨h1,h2⟩:=fresh_yes (k:=k0of mem images outs ins now) rfl rfl rfl rfl h64 (imageM (k0of mem images outs ins now) 0)
 rw [boot_eq,if_pos h,if_pos h,if_pos h1,h2]
theorem boot_no {mem:Int} {images:List ByteArray} {outs ins:List Chan} {now:Int} (h:imageE (k0of mem images outs ins now) 0=0) (h64:(k0of mem images outs ins now).hs<64):boot mem images outs ins now={k0of mem images outs ins now with gone:=1}:=by
 have h0:0≤(k0of mem images outs ins now).hs:=by
  show 0≤(if mem<0 then 0 else mem)
  split <;> omega
 obtain ⟨h1,h2⟩:=fresh_no (k:=k0of mem images outs ins now) rfl rfl h0 h64 {Proc.zero with mem:=imageM (k0of mem images outs ins now) 0}
 rw [boot_eq,if_pos h,if_pos h,if_neg (by rw [h1];decide),h2]
theorem onesBoxR (x:BoxV):∀ u ∈ (boxCells x).toList,u.oneCell'=true:=by
 intro u hu
 simp [boxCells] at hu
 rcases hu with rfl|rfl <;> rfl
theorem zeroBoxR:∀ W,(zeroValue 178).run Tryz.prog W=.ok (.agg #[.slice none 0 0,.int .i64 0]) W:=zero_of (by kernel_rfl)
def BoR (w:World) (iv ov nv:Value) (now:Int) (m:Nat) (jv:Value) (W:World):Prop:=∃ (n:Nat) (ba:Option Addr) (bc:Nat),n≤m∧jv=.int .i64 n∧Hid (W.heap[w.heap.size]? =some (.cells #[.slice none 0 0,.slice none 0 0,.int .i64 0,.slice none 0 0,.slice none 0 0,.int .i64 0,.slice none 0 0,.int .u64 0,.slice none 0 0,.slice none 0 0,.slice none 0 0,.slice none 0 0,.string ⟨#[]⟩,.slice none 0 0,.slice none 0 0,.int .i64 0,.int .i64 0] 70 (0,0)))∧Hid (W.heap[w.heap.size + 1]? =some (.cells (KC (.slice none 0 0) (.slice none 0 0) (.slice none 0 0) (.slice none 0 0) iv ov nv (.slice ba n bc) 0 0 now 0) 70 (0,0)))∧Hid (KR.Own 178 2 boxCells (w.heap.size + 1 + 1) W (.slice ba n bc) (List.replicate n zbox))∧Hid (Below w.heap.size w W)
theorem layB {W:World} {pv tv hv iv ov nv bx:Value} {k:Kern} {n:Nat} (h1:SlP W pv k.p) (h2:SlI W tv k.t.l) (h3:k.s=[]) (h4:k.pipes=[]) (h5:SlS W hv k.h) (h6:SlStr W iv k.images) (h7:SlCh W ov k.outs) (h8:SlCh W nv k.ins_) (h9:SlBx W bx (List.replicate n zbox)) (h10:k.box=List.replicate n ⟨[],0⟩) (h11:k.trace=[]) (h12:k.sent=[]):LayAt W ⟨pv,tv,.slice none 0 0,.slice none 0 0,hv,iv,ov,nv,bx,.slice none 0 0,.slice none 0 0⟩ (List.replicate n zbox) k:=
 ⟨h1,h2,by rw [h3];exact Sl.nil,by rw [h4];exact Sl.nil,h5,h6,h7,h8,h9,by rw [h10,List.map_replicate];rfl,fun x hx=> by rw [List.eq_of_mem_replicate hx];exact zbox_ok W,by rw [h11];exact Sl.nil,by rw [h12];exact Sl.nil⟩
theorem RBoot (mem:Int) (iv ov nv:Value) (images:List ByteArray) (outs ins_:List Chan) (now:Int) (w:World) (hi:SlStr w iv images) (ho:SlCh w ov outs) (hn:SlCh w nv ins_) (h3:ins_.length≤1000000) (m1:mem≤9223372036854775807):
 Calls Tryz.prog 66 #[.int .i64 mem,iv,ov,nv,.int .u64 now] w (GivesK (boot mem images outs ins_ now) w):=by
 obtain ⟨ia,ic,rfl,_,_⟩:=hi.shape
 obtain ⟨oa,oc,rfl,_,_⟩:=ho.shape
 obtain ⟨na,nc,rfl,hnc,hnm⟩:=hn.shape
 obtain ⟨iv,hiv⟩:∃ v,v=Value.slice ia images.length ic:=⟨_,rfl⟩
 obtain ⟨ov,hov⟩:∃ v,v=Value.slice oa outs.length oc:=⟨_,rfl⟩
 have h5:iv.oneCell'=true:=by rw [hiv];rfl
 have h6:ov.oneCell'=true:=by rw [hov];rfl
 rw [← hiv] at hi
 rw [← hov] at ho
 have HIM:=hU (fun W (h:Below w.heap.size w W)=> hi.below h)
 have HOU:=hU (fun W (h:Below w.heap.size w W)=> ho.below h)
 have HIN:=hU (fun W (h:Below w.heap.size w W)=> hn.below h)
 clear hi ho hn
 obtain ⟨q0,q1⟩:=two_new w w.heap.size (.cells #[.slice none 0 0,.slice none 0 0,.int .i64 0,.slice none 0 0,.slice none 0 0,.int .i64 0,.slice none 0 0,.int .u64 0,.slice none 0 0,.slice none 0 0,.slice none 0 0,.slice none 0 0,.string ⟨#[]⟩,.slice none 0 0,.slice none 0 0,.int .i64 0,.int .i64 0] 70) (.cells #[.slice none 0 0,.slice none 0 0,.int .i64 0,.slice none 0 0,.slice none 0 0,.int .i64 0,.slice none 0 0,.int .u64 0,.slice none 0 0,.slice none 0 0,.slice none 0 0,.slice none 0 0,.string ⟨#[]⟩,.slice none 0 0,.slice none 0 0,.int .i64 0,.int .i64 0] 70) rfl
 have hb0:Below w.heap.size w ((w.alloc (.cells #[.slice none 0 0,.slice none 0 0,.int .i64 0,.slice none 0 0,.slice none 0 0,.int .i64 0,.slice none 0 0,.int .u64 0,.slice none 0 0,.slice none 0 0,.slice none 0 0,.slice none 0 0,.string ⟨#[]⟩,.slice none 0 0,.slice none 0 0,.int .i64 0,.int .i64 0] 70)).alloc (.cells #[.slice none 0 0,.slice none 0 0,.int .i64 0,.slice none 0 0,.slice none 0 0,.int .i64 0,.slice none 0 0,.int .u64 0,.slice none 0 0,.slice none 0 0,.slice none 0 0,.slice none 0 0,.string ⟨#[]⟩,.slice none 0 0,.slice none 0 0,.int .i64 0,.int .i64 0] 70)):=bel
 obtain ⟨Wn,hW0⟩:=exW ((w.alloc (.cells #[.slice none 0 0,.slice none 0 0,.int .i64 0,.slice none 0 0,.slice none 0 0,.int .i64 0,.slice none 0 0,.int .u64 0,.slice none 0 0,.slice none 0 0,.slice none 0 0,.slice none 0 0,.string ⟨#[]⟩,.slice none 0 0,.slice none 0 0,.int .i64 0,.int .i64 0] 70)).alloc (.cells #[.slice none 0 0,.slice none 0 0,.int .i64 0,.slice none 0 0,.slice none 0 0,.int .i64 0,.slice none 0 0,.int .u64 0,.slice none 0 0,.slice none 0 0,.slice none 0 0,.slice none 0 0,.string ⟨#[]⟩,.slice none 0 0,.slice none 0 0,.int .i64 0,.int .i64 0] 70))
 rw [hW0] at q0 q1 hb0
 have HR:=hU q0
 have HZ:=hU q1
 have HB:=hU hb0
 clear q0 q1 hb0
 obtain ⟨nv,hnv⟩:∃ v,v=Value.slice na ins_.length nc:=⟨_,rfl⟩
 have h7:nv.oneCell'=true:=by rw [hnv];rfl
 go_enter Tryz.func66,Tryz.ntmps66
 repeat' (first
  |(rw [hW0];clear hW0)
  |(refine wpList_store (t:=70) (v:=.agg (KC (.slice none 0 0) (.slice none 0 0) (.slice none 0 0) (.slice none 0 0) (.slice ia images.length ic) (.slice oa outs.length oc) (.slice na ins_.length nc) (.slice none 0 0) 0 0 now 0)) (off:=0) (new:=KC (.slice none 0 0) (.slice none 0 0) (.slice none 0 0) (.slice none 0 0) (.slice ia images.length ic) (.slice oa outs.length oc) (.slice na ins_.length nc) (.slice none 0 0) 0 0 now 0) rfl rfl rfl rfl aggKern.size HZ.out rfl (show 0 + 17≤17 by decide) (onesKC rfl rfl rfl rfl rfl rfl rfl rfl) rfl ?_;intro Wn hp
    replace HB:=hU (Below.put HB.out hp (Nat.le_succ _))
    replace HR:=pO hp HR
    have HK:=pA hp
    clear hp HZ)
  |go_values|go_skip|go_guarded|(with_reducible refine wg ?_)|go_step|go_upon)
 rw [← hiv,← hov,← hnv] at HK
 have HNV:=hU hnv
 clear hiv hov hnv
 have hre:=hlt HR.out
 have HO0:Hid (KR.Own 178 2 boxCells (w.heap.size + 1 + 1) Wn (.slice none 0 0) []):=hU (KR.Own.nil _ _ _ _ _)
 go_loopw [12] (fun jv wr=> BoR w iv ov nv now ins_.length jv wr) (fun jv _=> ins_.length - (intOf jv).toNat)
 case atStart=> exact ⟨0,none,0,Nat.zero_le _,rfl,HR,HK,HO0,HB⟩
 case round=>
  clear HR HK HO0 HB hre
  obtain ⟨n,ba,bc,hnl,rfl,HR,HK,HO,HB⟩:=hrel
  obtain ⟨Wn,hWr⟩:∃ Wn,Wn=wr:=⟨_,rfl⟩
  subst hWr
  have hsz:=hlt HK.out
  by_cases hnl2:n<ins_.length
  · have e1:decide ((n:Int)<(ins_.length:Int))=true:=by simp;omega
    have e1b:decide (n<ins_.length)=true:=by simp;omega
    have f11:Wn.cell? ⟨w.heap.size + 1,11,none⟩=some (.slice ba n bc):=hcell HK.out 11
    obtain ⟨g5,hab,hg5⟩:=nbz HB
    obtain ⟨W1,hW1,hba,H5⟩:=nb1 (W:=Wn) (.cells (boxCells zbox) 178) hab
    have HR1:=nW hba HB
    obtain ⟨v2,W2,hrun,hv2,hgr⟩:=apRow (P:=Tryz.prog) (t:=66) (ty:=66) (bytes:=32) szBox (by decide) Tryz.underlying66 (by kernel_rfl) onesBoxR (ownB hba HO).out (one_rdG H5.out) (by have:=hba.size;omega) (by rw [List.length_replicate,List.length_singleton];unfold maxLen;omega) (by rw [List.length_replicate,List.length_singleton];omega)
    obtain ⟨htn,hbl⟩:=tn_of (ownB hba HO).out (by have:=hba.size;omega) hgr
    rw [← List.replicate_succ'] at hv2
    obtain ⟨a2,c2,hve,_,_⟩:=(hv2.sl szBox).shape
    rw [List.length_replicate] at hve
    subst hve
    have HRUN:=hU hrun
    have HO2:=hU hv2
    have HK2:=tnB htn (nB hba HK)
    have HR2:=tnB htn (nB hba HR)
    have HB2:Hid (Below w.heap.size w W2):=hU (HR1.out.trans (hbl.mono (by omega)))
    clear hrun hv2 hgr hba htn hbl H5 HR1
    repeat' (first
     |(refine wpList_buildSlice_one (v:=.agg #[.slice none 0 0,.int .i64 0]) rfl _ rfl rfl Tryz.underlying66 aggBox.size zeroBoxR rfl (by decide) (by decide) rfl ?_;(try simp only [Value.cells]);rw [hab];rw [show Wn.alloc (.cells #[.slice none 0 0,.int .i64 0] 178)=W1 from hW1];clear hab hW1)
     |(at_builtin;refine wpList_append_run _ rfl _ _ _ _ rfl _ _ rfl rfl _ _ HRUN.out ?_)
     |(refine wpList_store (t:=66) (v:=.slice a2 (n + 1) c2) (off:=11) (new:=KC (.slice none 0 0) (.slice none 0 0) (.slice none 0 0) (.slice none 0 0) iv ov nv (.slice a2 (n + 1) c2) 0 0 now 0) rfl rfl rfl rfl oneSBox.size HK2.out rfl (show 11 + 1≤17 by decide) (by intro u hu;simp [Value.cells] at hu;subst hu;rfl) rfl ?_;intro Wm hp
       have HO3:=ownP HO2 hp HK2
       have HB3:=hU (Below.put HB2.out hp (by omega))
       have HR3:=pO hp HR2
       have HK3:=pA hp
       clear hp)
     |go_values|go_skip|go_guarded|(with_reducible refine wg ?_)|go_step|go_upon)
    exact ⟨⟨n + 1,a2,c2,by omega,by go_num,HR3,HK3,HO3,HB3⟩,by simp [intOf];omega⟩
  · have HNE:Hid (n=ins_.length):=hU (by omega)
    have e1:decide ((n:Int)<(ins_.length:Int))=false:=by simp;omega
    have e1b:decide (n<ins_.length)=false:=by simp;omega
    obtain ⟨K0,hK0⟩:∃ k,k0of mem images outs ins_ now=k:=⟨_,rfl⟩
    have hKim:K0.images=images:=by rw [← hK0];rfl
    have hKhs:K0.hs=(if mem<0 then 0 else mem):=by rw [← hK0];rfl
    have HKH:=hU hKhs
    clear hKhs
    repeat' (first|go_values|go_skip|go_guarded|(with_reducible refine wg ?_)|go_step|go_upon)
    refine (RNew mem _).mono ?_
    rintro er Wn ⟨rfl,hb⟩
    replace HR:=nB hb HR
    replace HK:=nB hb HK
    replace HO:=ownB hb HO
    replace HB:=nW hb HB
    clear hb
    rw [← HKH.out]
    dsimp only
    have hhs0:0≤K0.hs:=by rw [HKH.out];split <;> omega
    have hhsm:K0.hs≤9223372036854775807:=by rw [HKH.out];split <;> omega
    obtain ⟨b4,hab,hbz⟩:=nbz HB
    have hb4:=nlt HK hab
    obtain ⟨Wa,hWa,hba,HZ⟩:=nb1 (W:=Wn) (.cells #[.int .i64 0,.slice none 0 0] 65) hab
    replace HR:=nB hba HR
    replace HK:=nB hba HK
    replace HO:=ownB hba HO
    replace HB:=nW hba HB
    clear hba
    have HK5:mem<0→Hid (Wa.heap[w.heap.size + 1]? =some (.cells (KC (.slice none 0 0) (.slice none 0 0) (.slice none 0 0) (.slice none 0 0) iv ov nv (.slice ba n bc) 0 K0.hs now 0) 70 (0,0))):=fun h=> by
     have hz0:K0.hs=0:=by rw [HKH.out,if_pos h]
     rw [hz0]
     exact HK
    by_cases hm0:mem<0
    case' pos=>
     rw [if_pos hm0]
     have e2:((1:Int)==0)=false:=by decide
     replace HK5:=HK5 hm0
     repeat' (first
      |(rw [hWa,hab];clear hWa hab)
      |(refine wpList_store (t:=65) (v:=.agg #[.int .i64 K0.hs,.slice none 0 0]) (off:=0) (new:=#[.int .i64 K0.hs,.slice none 0 0]) rfl rfl rfl rfl aggHeap.size HZ.out rfl (show 0 + 2≤2 by decide) (ones2V K0.hs (.slice none 0 0) rfl) rfl ?_;intro Wn hp;replace HO:=ownP HO hp HZ;replace HB:=hU (Below.put HB.out hp (by omega));replace HR:=pO hp HR;replace HK5:=pO hp HK5;clear hp HZ HK)
      |(refine wpList_load (t:=70) (v:=.agg (KC (.slice none 0 0) (.slice none 0 0) (.slice none 0 0) (.slice none 0 0) iv ov nv (.slice ba n bc) 0 K0.hs now 0)) rfl rfl rfl (run_load_whole aggKern HK5.out rfl) ?_)
      |go_values|go_skip|go_guarded|(with_reducible refine wg ?_)|go_step|go_upon)
    case' neg=>
     rw [if_neg hm0]
     have e2:((0:Int)==0)=true:=by decide
     clear HK5
     repeat' (first
      |(rw [hWa,hab];clear hWa hab)
      |(refine wpList_store (t:=65) (v:=.agg #[.int .i64 K0.hs,.slice none 0 0]) (off:=0) (new:=#[.int .i64 K0.hs,.slice none 0 0]) rfl rfl rfl rfl aggHeap.size HZ.out rfl (show 0 + 2≤2 by decide) (ones2V K0.hs (.slice none 0 0) rfl) rfl ?_;intro Wn hp;replace HO:=ownP HO hp HZ;replace HB:=hU (Below.put HB.out hp (by omega));replace HR:=pO hp HR;replace HK:=pO hp HK;have HZ2:=pA hp;clear hp HZ)
      |(refine wpList_load (t:=65) (v:=.agg #[.int .i64 K0.hs,.slice none 0 0]) rfl rfl rfl (run_load_whole aggHeap HZ2.out rfl) ?_)
      |(refine wpList_store (t:=65) (v:=.agg #[.int .i64 K0.hs,.slice none 0 0]) (off:=5) (new:=(KC (.slice none 0 0) (.slice none 0 0) (.slice none 0 0) (.slice none 0 0) iv ov nv (.slice ba n bc) 0 K0.hs now 0)) rfl rfl rfl rfl aggHeap.size HK.out rfl (show 5 + 2≤17 by decide) (ones2V K0.hs (.slice none 0 0) rfl) rfl ?_;intro Wn hp;replace HO:=ownP HO hp HK;replace HB:=hU (Below.put HB.out hp (by omega));replace HR:=pO hp HR;have HK5:=pA hp;clear hp HK HZ2)
      |(refine wpList_load (t:=70) (v:=.agg (KC (.slice none 0 0) (.slice none 0 0) (.slice none 0 0) (.slice none 0 0) iv ov nv (.slice ba n bc) 0 K0.hs now 0)) rfl rfl rfl (run_load_whole aggKern HK5.out rfl) ?_)
      |go_values|go_skip|go_guarded|(with_reducible refine wg ?_)|go_step|go_upon)
    · refine (RImage iv ov nv (.slice ba n bc) images K0.hs now 0 K0 hKim _ (HIM.out _ HB.out).rd).mono ?_
      rintro er Wn ⟨rfl,hb⟩
      replace HR:=nB hb HR
      replace HK5:=nB hb HK5
      replace HO:=ownB hb HO
      replace HB:=nW hb HB
      clear hb e2 hm0
      dsimp only
      by_cases hE:imageE K0 0=0
      · have e3:(imageE K0 0 !=0)=false:=by simpa using hE
        repeat' (first
         |(refine wpList_load (t:=70) (v:=.agg (KC (.slice none 0 0) (.slice none 0 0) (.slice none 0 0) (.slice none 0 0) iv ov nv (.slice ba n bc) 0 K0.hs now 0)) rfl rfl rfl (run_load_whole aggKern HK5.out rfl) ?_)
         |go_values|go_skip|go_guarded|(with_reducible refine wg ?_)|go_step|go_upon)
        by_cases h64:64≤K0.hs
        · refine (RfreshY iv ov nv (.slice ba n bc) K0.hs now (imageM K0 0) _ h5 h6 h7 rfl h64 hhsm).mono ?_
          rintro er Wn ⟨pv,tv,hv,rfl,ho2,ho3,ho1,hb⟩
          obtain ⟨pa,pc,hve,_,_⟩:=(ho2.sl szProc).shape
          replace hve:pv=.slice pa 1 pc:=hve
          subst hve
          obtain ⟨ta,tc,hve,_,_⟩:=(ho3.sl szInt).shape
          replace hve:tv=.slice ta 1 tc:=hve
          subst hve
          obtain ⟨ha,hc,hve,_,_⟩:=(ho1.sl szSpan).shape
          replace hve:hv=.slice ha 1 hc:=hve
          subst hve
          have HO1:=hU ho1
          have HO2:=hU ho2
          have HO3:=hU ho3
          replace HR:=nB hb HR
          replace HO:=ownB hb HO
          replace HB:=nW hb HB
          clear hb ho1 ho2 ho3 HK5
          dsimp only
          obtain ⟨b6,hab6,hbz6⟩:=nbz HB
          have hb6:=nlt HR hab6
          obtain ⟨Wb,hWb,hbb,HY⟩:=nb1 (W:=Wn) (.cells #[.slice none 0 0,.slice none 0 0,.int .i64 0,.slice none 0 0,.slice none 0 0,.int .i64 0,.slice none 0 0,.int .u64 0,.slice none 0 0,.slice none 0 0,.slice none 0 0,.slice none 0 0,.string ⟨#[]⟩,.slice none 0 0,.slice none 0 0,.int .i64 0,.int .i64 0] 70) hab6
          replace HR:=nB hbb HR
          replace HO:=ownB hbb HO
          replace HO1:=ownB hbb HO1
          replace HO2:=ownB hbb HO2
          replace HO3:=ownB hbb HO3
          replace HB:=nW hbb HB
          clear hbb
          have e4:((0:Int) !=0)=false:=by decide
          repeat' (first
           |(rw [hWb,hab6];clear hWb hab6)
           |(refine wpList_store (t:=70) (v:=.agg (KC (.slice pa 1 pc) (.slice ta 1 tc) (.slice none 0 0) (.slice ha 1 hc) iv ov nv (.slice ba n bc) 5 K0.hs now 0)) (off:=0) (new:=(KC (.slice pa 1 pc) (.slice ta 1 tc) (.slice none 0 0) (.slice ha 1 hc) iv ov nv (.slice ba n bc) 5 K0.hs now 0)) rfl rfl rfl rfl aggKern.size HY.out rfl (show 0 + 17≤17 by decide) (onesKC rfl rfl rfl rfl h5 h6 h7 rfl) rfl ?_;intro Wn hp;replace HO:=ownP HO hp HY;replace HO1:=ownP HO1 hp HY;replace HO2:=ownP HO2 hp HY;replace HO3:=ownP HO3 hp HY;replace HB:=hU (Below.put HB.out hp (by omega));replace HR:=pO hp HR;have HY2:=pA hp;clear hp HY)
           |(refine wpList_load (t:=70) (v:=.agg (KC (.slice pa 1 pc) (.slice ta 1 tc) (.slice none 0 0) (.slice ha 1 hc) iv ov nv (.slice ba n bc) 5 K0.hs now 0)) rfl rfl rfl (run_load_whole aggKern HY2.out rfl) ?_)
           |(refine wpList_store (t:=70) (v:=.agg (KC (.slice pa 1 pc) (.slice ta 1 tc) (.slice none 0 0) (.slice ha 1 hc) iv ov nv (.slice ba n bc) 5 K0.hs now 0)) (off:=0) (new:=(KC (.slice pa 1 pc) (.slice ta 1 tc) (.slice none 0 0) (.slice ha 1 hc) iv ov nv (.slice ba n bc) 5 K0.hs now 0)) rfl rfl rfl rfl aggKern.size HR.out rfl (show 0 + 17≤17 by decide) (onesKC rfl rfl rfl rfl h5 h6 h7 rfl) rfl ?_;intro Wn hp;replace HO:=ownP HO hp HR;replace HO1:=ownP HO1 hp HR;replace HO2:=ownP HO2 hp HR;replace HO3:=ownP HO3 hp HR;replace HB:=hU (Below.put HB.out hp (Nat.le_refl _));have HR2:=pA hp;clear hp HR)
           |go_values|go_skip|go_guarded|(with_reducible refine wg ?_)|go_step|go_upon)
          (try simp only [Exit.inBlock,Exit.then]);refine bodyPost_ret (res_cell Tryz.results66 aggKern rfl HR2.out rfl) rfl ?_
          subst hK0
          refine ⟨_,rfl,⟨⟨.slice pa 1 pc,.slice ta 1 tc,.slice none 0 0,.slice none 0 0,.slice ha 1 hc,iv,ov,nv,.slice ba n bc,.slice none 0 0,.slice none 0 0⟩,List.replicate n zbox,by rw [boot_yes hE h64];rfl,?_⟩,HB.out⟩
          rw [boot_yes hE h64]
          exact layB (HO2.out.sl szProc) (HO3.out.sl szInt) rfl rfl (HO1.out.sl szSpan) (HIM.out _ HB.out) (HOU.out _ HB.out) (by rw [HNV.out];exact HIN.out _ HB.out) (HO.out.sl szBox) (by rw [HNE.out];rfl) rfl rfl
        · refine (RfreshN iv ov nv (.slice ba n bc) K0.hs now (imageM K0 0) _ h5 h6 h7 rfl hhs0 (by omega) hhsm).mono ?_
          rintro er Wn ⟨rfl,hb⟩
          replace HR:=nB hb HR
          replace HK5:=nB hb HK5
          replace HO:=ownB hb HO
          replace HB:=nW hb HB
          clear hb
          dsimp only
          obtain ⟨b6,hab6,hbz6⟩:=nbz HB
          have hb6:=nlt HK5 hab6
          obtain ⟨Wb,hWb,hbb,HY⟩:=nb1 (W:=Wn) (.cells #[.slice none 0 0,.slice none 0 0,.int .i64 0,.slice none 0 0,.slice none 0 0,.int .i64 0,.slice none 0 0,.int .u64 0,.slice none 0 0,.slice none 0 0,.slice none 0 0,.slice none 0 0,.string ⟨#[]⟩,.slice none 0 0,.slice none 0 0,.int .i64 0,.int .i64 0] 70) hab6
          replace HR:=nB hbb HR
          replace HK5:=nB hbb HK5
          replace HO:=ownB hbb HO
          replace HB:=nW hbb HB
          clear hbb
          have e4:((5:Int) !=0)=true:=by decide
          repeat' (first
           |(rw [hWb,hab6];clear hWb hab6)
           |(refine wpList_store (t:=70) (v:=.agg (KC (.slice none 0 0) (.slice none 0 0) (.slice none 0 0) (.slice none 0 0) iv ov nv (.slice ba n bc) 0 K0.hs now 0)) (off:=0) (new:=(KC (.slice none 0 0) (.slice none 0 0) (.slice none 0 0) (.slice none 0 0) iv ov nv (.slice ba n bc) 0 K0.hs now 0)) rfl rfl rfl rfl aggKern.size HY.out rfl (show 0 + 17≤17 by decide) (onesKC rfl rfl rfl rfl h5 h6 h7 rfl) rfl ?_;intro Wn hp;replace HO:=ownP HO hp HY;replace HB:=hU (Below.put HB.out hp (by omega));replace HR:=pO hp HR;replace HK5:=pO hp HK5;clear hp HY)
           |(refine wpList_store (t:=3) (v:=.int .i64 1) (off:=16) (new:=(KC (.slice none 0 0) (.slice none 0 0) (.slice none 0 0) (.slice none 0 0) iv ov nv (.slice ba n bc) 0 K0.hs now 1)) rfl rfl rfl rfl oneInt.size HK5.out rfl (show 16 + 1≤17 by decide) (by intro u hu;simp [Value.cells] at hu;subst hu;rfl) rfl ?_;intro Wn hp;replace HO:=ownP HO hp HK5;replace HB:=hU (Below.put HB.out hp (by omega));replace HR:=pO hp HR;have HK6:=pA hp;clear hp HK5)
           |(refine wpList_load (t:=70) (v:=.agg (KC (.slice none 0 0) (.slice none 0 0) (.slice none 0 0) (.slice none 0 0) iv ov nv (.slice ba n bc) 0 K0.hs now 1)) rfl rfl rfl (run_load_whole aggKern HK6.out rfl) ?_)
           |(refine wpList_store (t:=70) (v:=.agg (KC (.slice none 0 0) (.slice none 0 0) (.slice none 0 0) (.slice none 0 0) iv ov nv (.slice ba n bc) 0 K0.hs now 1)) (off:=0) (new:=(KC (.slice none 0 0) (.slice none 0 0) (.slice none 0 0) (.slice none 0 0) iv ov nv (.slice ba n bc) 0 K0.hs now 1)) rfl rfl rfl rfl aggKern.size HR.out rfl (show 0 + 17≤17 by decide) (onesKC rfl rfl rfl rfl h5 h6 h7 rfl) rfl ?_;intro Wn hp;replace HO:=ownP HO hp HR;replace HB:=hU (Below.put HB.out hp (Nat.le_refl _));have HR2:=pA hp;clear hp HR)
           |go_values|go_skip|go_guarded|(with_reducible refine wg ?_)|go_step|go_upon)
          (try simp only [Exit.inBlock,Exit.then]);refine bodyPost_ret (res_cell Tryz.results66 aggKern rfl HR2.out rfl) rfl ?_
          subst hK0
          refine ⟨_,rfl,⟨⟨.slice none 0 0,.slice none 0 0,.slice none 0 0,.slice none 0 0,.slice none 0 0,iv,ov,nv,.slice ba n bc,.slice none 0 0,.slice none 0 0⟩,List.replicate n zbox,by rw [boot_no hE (by omega)];rfl,?_⟩,HB.out⟩
          rw [boot_no hE (by omega)]
          exact layB Sl.nil Sl.nil rfl rfl Sl.nil (HIM.out _ HB.out) (HOU.out _ HB.out) (by rw [HNV.out];exact HIN.out _ HB.out) (HO.out.sl szBox) (by rw [HNE.out];rfl) rfl rfl
      · have e3:(imageE K0 0 !=0)=true:=by simpa using hE
        repeat' (first
         |(refine wpList_store (t:=3) (v:=.int .i64 1) (off:=16) (new:=(KC (.slice none 0 0) (.slice none 0 0) (.slice none 0 0) (.slice none 0 0) iv ov nv (.slice ba n bc) 0 K0.hs now 1)) rfl rfl rfl rfl oneInt.size HK5.out rfl (show 16 + 1≤17 by decide) (by intro u hu;simp [Value.cells] at hu;subst hu;rfl) rfl ?_;intro Wn hp;replace HO:=ownP HO hp HK5;replace HB:=hU (Below.put HB.out hp (by omega));replace HR:=pO hp HR;have HK6:=pA hp;clear hp HK5)
         |(refine wpList_load (t:=70) (v:=.agg (KC (.slice none 0 0) (.slice none 0 0) (.slice none 0 0) (.slice none 0 0) iv ov nv (.slice ba n bc) 0 K0.hs now 1)) rfl rfl rfl (run_load_whole aggKern HK6.out rfl) ?_)
         |(refine wpList_store (t:=70) (v:=.agg (KC (.slice none 0 0) (.slice none 0 0) (.slice none 0 0) (.slice none 0 0) iv ov nv (.slice ba n bc) 0 K0.hs now 1)) (off:=0) (new:=(KC (.slice none 0 0) (.slice none 0 0) (.slice none 0 0) (.slice none 0 0) iv ov nv (.slice ba n bc) 0 K0.hs now 1)) rfl rfl rfl rfl aggKern.size HR.out rfl (show 0 + 17≤17 by decide) (onesKC rfl rfl rfl rfl h5 h6 h7 rfl) rfl ?_;intro Wn hp;replace HO:=ownP HO hp HR;replace HB:=hU (Below.put HB.out hp (Nat.le_refl _));have HR2:=pA hp;clear hp HR)
         |go_values|go_skip|go_guarded|(with_reducible refine wg ?_)|go_step|go_upon)
        (try simp only [Exit.inBlock,Exit.then]);refine bodyPost_ret (res_cell Tryz.results66 aggKern rfl HR2.out rfl) rfl ?_
        subst hK0
        refine ⟨_,rfl,⟨⟨.slice none 0 0,.slice none 0 0,.slice none 0 0,.slice none 0 0,.slice none 0 0,iv,ov,nv,.slice ba n bc,.slice none 0 0,.slice none 0 0⟩,List.replicate n zbox,by rw [boot_bad hE];rfl,?_⟩,HB.out⟩
        rw [boot_bad hE]
        exact layB Sl.nil Sl.nil rfl rfl Sl.nil (HIM.out _ HB.out) (HOU.out _ HB.out) (by rw [HNV.out];exact HIN.out _ HB.out) (HO.out.sl szBox) (by rw [HNE.out];rfl) rfl rfl
    · refine (RImage iv ov nv (.slice ba n bc) images K0.hs now 0 K0 hKim _ (HIM.out _ HB.out).rd).mono ?_
      rintro er Wn ⟨rfl,hb⟩
      replace HR:=nB hb HR
      replace HK5:=nB hb HK5
      replace HO:=ownB hb HO
      replace HB:=nW hb HB
      clear hb e2 hm0
      dsimp only
      by_cases hE:imageE K0 0=0
      · have e3:(imageE K0 0 !=0)=false:=by simpa using hE
        repeat' (first
         |(refine wpList_load (t:=70) (v:=.agg (KC (.slice none 0 0) (.slice none 0 0) (.slice none 0 0) (.slice none 0 0) iv ov nv (.slice ba n bc) 0 K0.hs now 0)) rfl rfl rfl (run_load_whole aggKern HK5.out rfl) ?_)
         |go_values|go_skip|go_guarded|(with_reducible refine wg ?_)|go_step|go_upon)
        by_cases h64:64≤K0.hs
        · refine (RfreshY iv ov nv (.slice ba n bc) K0.hs now (imageM K0 0) _ h5 h6 h7 rfl h64 hhsm).mono ?_
          rintro er Wn ⟨pv,tv,hv,rfl,ho2,ho3,ho1,hb⟩
          obtain ⟨pa,pc,hve,_,_⟩:=(ho2.sl szProc).shape
          replace hve:pv=.slice pa 1 pc:=hve
          subst hve
          obtain ⟨ta,tc,hve,_,_⟩:=(ho3.sl szInt).shape
          replace hve:tv=.slice ta 1 tc:=hve
          subst hve
          obtain ⟨ha,hc,hve,_,_⟩:=(ho1.sl szSpan).shape
          replace hve:hv=.slice ha 1 hc:=hve
          subst hve
          have HO1:=hU ho1
          have HO2:=hU ho2
          have HO3:=hU ho3
          replace HR:=nB hb HR
          replace HO:=ownB hb HO
          replace HB:=nW hb HB
          clear hb ho1 ho2 ho3 HK5
          dsimp only
          obtain ⟨b6,hab6,hbz6⟩:=nbz HB
          have hb6:=nlt HR hab6
          obtain ⟨Wb,hWb,hbb,HY⟩:=nb1 (W:=Wn) (.cells #[.slice none 0 0,.slice none 0 0,.int .i64 0,.slice none 0 0,.slice none 0 0,.int .i64 0,.slice none 0 0,.int .u64 0,.slice none 0 0,.slice none 0 0,.slice none 0 0,.slice none 0 0,.string ⟨#[]⟩,.slice none 0 0,.slice none 0 0,.int .i64 0,.int .i64 0] 70) hab6
          replace HR:=nB hbb HR
          replace HO:=ownB hbb HO
          replace HO1:=ownB hbb HO1
          replace HO2:=ownB hbb HO2
          replace HO3:=ownB hbb HO3
          replace HB:=nW hbb HB
          clear hbb
          have e4:((0:Int) !=0)=false:=by decide
          repeat' (first
           |(rw [hWb,hab6];clear hWb hab6)
           |(refine wpList_store (t:=70) (v:=.agg (KC (.slice pa 1 pc) (.slice ta 1 tc) (.slice none 0 0) (.slice ha 1 hc) iv ov nv (.slice ba n bc) 5 K0.hs now 0)) (off:=0) (new:=(KC (.slice pa 1 pc) (.slice ta 1 tc) (.slice none 0 0) (.slice ha 1 hc) iv ov nv (.slice ba n bc) 5 K0.hs now 0)) rfl rfl rfl rfl aggKern.size HY.out rfl (show 0 + 17≤17 by decide) (onesKC rfl rfl rfl rfl h5 h6 h7 rfl) rfl ?_;intro Wn hp;replace HO:=ownP HO hp HY;replace HO1:=ownP HO1 hp HY;replace HO2:=ownP HO2 hp HY;replace HO3:=ownP HO3 hp HY;replace HB:=hU (Below.put HB.out hp (by omega));replace HR:=pO hp HR;have HY2:=pA hp;clear hp HY)
           |(refine wpList_load (t:=70) (v:=.agg (KC (.slice pa 1 pc) (.slice ta 1 tc) (.slice none 0 0) (.slice ha 1 hc) iv ov nv (.slice ba n bc) 5 K0.hs now 0)) rfl rfl rfl (run_load_whole aggKern HY2.out rfl) ?_)
           |(refine wpList_store (t:=70) (v:=.agg (KC (.slice pa 1 pc) (.slice ta 1 tc) (.slice none 0 0) (.slice ha 1 hc) iv ov nv (.slice ba n bc) 5 K0.hs now 0)) (off:=0) (new:=(KC (.slice pa 1 pc) (.slice ta 1 tc) (.slice none 0 0) (.slice ha 1 hc) iv ov nv (.slice ba n bc) 5 K0.hs now 0)) rfl rfl rfl rfl aggKern.size HR.out rfl (show 0 + 17≤17 by decide) (onesKC rfl rfl rfl rfl h5 h6 h7 rfl) rfl ?_;intro Wn hp;replace HO:=ownP HO hp HR;replace HO1:=ownP HO1 hp HR;replace HO2:=ownP HO2 hp HR;replace HO3:=ownP HO3 hp HR;replace HB:=hU (Below.put HB.out hp (Nat.le_refl _));have HR2:=pA hp;clear hp HR)
           |go_values|go_skip|go_guarded|(with_reducible refine wg ?_)|go_step|go_upon)
          (try simp only [Exit.inBlock,Exit.then]);refine bodyPost_ret (res_cell Tryz.results66 aggKern rfl HR2.out rfl) rfl ?_
          subst hK0
          refine ⟨_,rfl,⟨⟨.slice pa 1 pc,.slice ta 1 tc,.slice none 0 0,.slice none 0 0,.slice ha 1 hc,iv,ov,nv,.slice ba n bc,.slice none 0 0,.slice none 0 0⟩,List.replicate n zbox,by rw [boot_yes hE h64];rfl,?_⟩,HB.out⟩
          rw [boot_yes hE h64]
          exact layB (HO2.out.sl szProc) (HO3.out.sl szInt) rfl rfl (HO1.out.sl szSpan) (HIM.out _ HB.out) (HOU.out _ HB.out) (by rw [HNV.out];exact HIN.out _ HB.out) (HO.out.sl szBox) (by rw [HNE.out];rfl) rfl rfl
        · refine (RfreshN iv ov nv (.slice ba n bc) K0.hs now (imageM K0 0) _ h5 h6 h7 rfl hhs0 (by omega) hhsm).mono ?_
          rintro er Wn ⟨rfl,hb⟩
          replace HR:=nB hb HR
          replace HK5:=nB hb HK5
          replace HO:=ownB hb HO
          replace HB:=nW hb HB
          clear hb
          dsimp only
          obtain ⟨b6,hab6,hbz6⟩:=nbz HB
          have hb6:=nlt HK5 hab6
          obtain ⟨Wb,hWb,hbb,HY⟩:=nb1 (W:=Wn) (.cells #[.slice none 0 0,.slice none 0 0,.int .i64 0,.slice none 0 0,.slice none 0 0,.int .i64 0,.slice none 0 0,.int .u64 0,.slice none 0 0,.slice none 0 0,.slice none 0 0,.slice none 0 0,.string ⟨#[]⟩,.slice none 0 0,.slice none 0 0,.int .i64 0,.int .i64 0] 70) hab6
          replace HR:=nB hbb HR
          replace HK5:=nB hbb HK5
          replace HO:=ownB hbb HO
          replace HB:=nW hbb HB
          clear hbb
          have e4:((5:Int) !=0)=true:=by decide
          repeat' (first
           |(rw [hWb,hab6];clear hWb hab6)
           |(refine wpList_store (t:=70) (v:=.agg (KC (.slice none 0 0) (.slice none 0 0) (.slice none 0 0) (.slice none 0 0) iv ov nv (.slice ba n bc) 0 K0.hs now 0)) (off:=0) (new:=(KC (.slice none 0 0) (.slice none 0 0) (.slice none 0 0) (.slice none 0 0) iv ov nv (.slice ba n bc) 0 K0.hs now 0)) rfl rfl rfl rfl aggKern.size HY.out rfl (show 0 + 17≤17 by decide) (onesKC rfl rfl rfl rfl h5 h6 h7 rfl) rfl ?_;intro Wn hp;replace HO:=ownP HO hp HY;replace HB:=hU (Below.put HB.out hp (by omega));replace HR:=pO hp HR;replace HK5:=pO hp HK5;clear hp HY)
           |(refine wpList_store (t:=3) (v:=.int .i64 1) (off:=16) (new:=(KC (.slice none 0 0) (.slice none 0 0) (.slice none 0 0) (.slice none 0 0) iv ov nv (.slice ba n bc) 0 K0.hs now 1)) rfl rfl rfl rfl oneInt.size HK5.out rfl (show 16 + 1≤17 by decide) (by intro u hu;simp [Value.cells] at hu;subst hu;rfl) rfl ?_;intro Wn hp;replace HO:=ownP HO hp HK5;replace HB:=hU (Below.put HB.out hp (by omega));replace HR:=pO hp HR;have HK6:=pA hp;clear hp HK5)
           |(refine wpList_load (t:=70) (v:=.agg (KC (.slice none 0 0) (.slice none 0 0) (.slice none 0 0) (.slice none 0 0) iv ov nv (.slice ba n bc) 0 K0.hs now 1)) rfl rfl rfl (run_load_whole aggKern HK6.out rfl) ?_)
           |(refine wpList_store (t:=70) (v:=.agg (KC (.slice none 0 0) (.slice none 0 0) (.slice none 0 0) (.slice none 0 0) iv ov nv (.slice ba n bc) 0 K0.hs now 1)) (off:=0) (new:=(KC (.slice none 0 0) (.slice none 0 0) (.slice none 0 0) (.slice none 0 0) iv ov nv (.slice ba n bc) 0 K0.hs now 1)) rfl rfl rfl rfl aggKern.size HR.out rfl (show 0 + 17≤17 by decide) (onesKC rfl rfl rfl rfl h5 h6 h7 rfl) rfl ?_;intro Wn hp;replace HO:=ownP HO hp HR;replace HB:=hU (Below.put HB.out hp (Nat.le_refl _));have HR2:=pA hp;clear hp HR)
           |go_values|go_skip|go_guarded|(with_reducible refine wg ?_)|go_step|go_upon)
          (try simp only [Exit.inBlock,Exit.then]);refine bodyPost_ret (res_cell Tryz.results66 aggKern rfl HR2.out rfl) rfl ?_
          subst hK0
          refine ⟨_,rfl,⟨⟨.slice none 0 0,.slice none 0 0,.slice none 0 0,.slice none 0 0,.slice none 0 0,iv,ov,nv,.slice ba n bc,.slice none 0 0,.slice none 0 0⟩,List.replicate n zbox,by rw [boot_no hE (by omega)];rfl,?_⟩,HB.out⟩
          rw [boot_no hE (by omega)]
          exact layB Sl.nil Sl.nil rfl rfl Sl.nil (HIM.out _ HB.out) (HOU.out _ HB.out) (by rw [HNV.out];exact HIN.out _ HB.out) (HO.out.sl szBox) (by rw [HNE.out];rfl) rfl rfl
      · have e3:(imageE K0 0 !=0)=true:=by simpa using hE
        repeat' (first
         |(refine wpList_store (t:=3) (v:=.int .i64 1) (off:=16) (new:=(KC (.slice none 0 0) (.slice none 0 0) (.slice none 0 0) (.slice none 0 0) iv ov nv (.slice ba n bc) 0 K0.hs now 1)) rfl rfl rfl rfl oneInt.size HK5.out rfl (show 16 + 1≤17 by decide) (by intro u hu;simp [Value.cells] at hu;subst hu;rfl) rfl ?_;intro Wn hp;replace HO:=ownP HO hp HK5;replace HB:=hU (Below.put HB.out hp (by omega));replace HR:=pO hp HR;have HK6:=pA hp;clear hp HK5)
         |(refine wpList_load (t:=70) (v:=.agg (KC (.slice none 0 0) (.slice none 0 0) (.slice none 0 0) (.slice none 0 0) iv ov nv (.slice ba n bc) 0 K0.hs now 1)) rfl rfl rfl (run_load_whole aggKern HK6.out rfl) ?_)
         |(refine wpList_store (t:=70) (v:=.agg (KC (.slice none 0 0) (.slice none 0 0) (.slice none 0 0) (.slice none 0 0) iv ov nv (.slice ba n bc) 0 K0.hs now 1)) (off:=0) (new:=(KC (.slice none 0 0) (.slice none 0 0) (.slice none 0 0) (.slice none 0 0) iv ov nv (.slice ba n bc) 0 K0.hs now 1)) rfl rfl rfl rfl aggKern.size HR.out rfl (show 0 + 17≤17 by decide) (onesKC rfl rfl rfl rfl h5 h6 h7 rfl) rfl ?_;intro Wn hp;replace HO:=ownP HO hp HR;replace HB:=hU (Below.put HB.out hp (Nat.le_refl _));have HR2:=pA hp;clear hp HR)
         |go_values|go_skip|go_guarded|(with_reducible refine wg ?_)|go_step|go_upon)
        (try simp only [Exit.inBlock,Exit.then]);refine bodyPost_ret (res_cell Tryz.results66 aggKern rfl HR2.out rfl) rfl ?_
        subst hK0
        refine ⟨_,rfl,⟨⟨.slice none 0 0,.slice none 0 0,.slice none 0 0,.slice none 0 0,.slice none 0 0,iv,ov,nv,.slice ba n bc,.slice none 0 0,.slice none 0 0⟩,List.replicate n zbox,by rw [boot_bad hE];rfl,?_⟩,HB.out⟩
        rw [boot_bad hE]
        exact layB Sl.nil Sl.nil rfl rfl Sl.nil (HIM.out _ HB.out) (HOU.out _ HB.out) (by rw [HNV.out];exact HIN.out _ HB.out) (HO.out.sl szBox) (by rw [HNE.out];rfl) rfl rfl
end Rf
end Go.Proofs.YthgehdghihbiaaaGreatDoor
