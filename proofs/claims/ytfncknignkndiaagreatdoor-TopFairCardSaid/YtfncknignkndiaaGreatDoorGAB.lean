/- kern.Boot: a guest of images. Conditions: as told. -/
import Derived.Test.YtfncknignkndiaaGreatDoorKwFresh
import Derived.Test.YtfncknignkndiaaGreatDoorGSeg
import Derived.Test.YtfncknignkndiaaGreatDoorGTop
import Derived.Test.YtfncknignkndiaaGreatDoorGBox
set_option linter.unusedVariables false
set_option maxRecDepth 100000
set_option maxHeartbeats 8000000
set_option linter.unusedSimpArgs false
namespace Go.Proofs.YtfncknignkndiaaGreatDoor
open Tryz
open Go.RowKit KR RegT3
namespace Kn
theorem aH.xAa {W:World} {y:Lay} {bs:List fY} {k:aI} (h:aH W y bs k) (x:Int) {v:Value} (hv:SlS W v k.h):aH W {y with h:=v} bs {k with hs:=x}:=⟨h.p,h.t,h.s,h.pi,hv,h.im,h.ou,h.ins_,h.bx,h.bse,h.ok,h.tr,h.se⟩
theorem qTz (mem:Int) (iv ov nv:Value) (images:List ByteArray) (outs ins_:List cS) (now:Int) (w:World) (hi:Rd 1 strCells w iv images) (ho:Rd 5 cS.cells w ov outs) (hn:Rd 5 cS.cells w nv ins_) (h1:images.length≤8796093022207) (h2:outs.length≤1000000) (h3:ins_.length≤1000000) (m0: -9223372036854775808≤mem) (m1:mem≤9223372036854775807):
 Calls prog 12 #[.int .i64 mem,iv,ov,nv,.int .u64 now] w (oX (eK mem images outs ins_ now) w):=by
 obtain ⟨na,nc,rfl,hnc,hnm⟩:=hn.shape;have HI:=hU (fun W (h:Below w.heap.size w W)=> hi.below h);have HO:=hU (fun W (h:Below w.heap.size w W)=> ho.below h);have HN:=hU (fun W (h:Below w.heap.size w W)=> hn.below h);clear hi ho hn;obtain ⟨W0,hW0,hb0,R0⟩:=nb1 (W:=w) (.cells zSe 41) rfl;have B0:=hU hb0;clear hb0;go_in;repeat' (first|(rw [hW0];clear hW0)|go_values|go_skip|go_guarded|refine wg ?_|go_step|go_upon)
 refine wp_region_noPanic ?_;refine go0 (S:=fun W=> True) [] trivial fun hS=> ?_;obtain ⟨W1,hWd⟩:=exW W0.drew;have R1:=dB hWd R0;have B1:Hid (Below w.heap.size w W1):=hU (by rw [← hWd];exact B0.out.drew);rw [hWd];clear hWd R0 B0;refine ts [.p 0,.p 2,.p 4,.p 6,.p 7,.p 9] ?_;clear hS;revert R1 B1;apply qZr (F:=fun (v1 v2 v3 v4:Value) (W5:World)=> Hid (qUc W5 v1 images)∧Hid (SlCh W5 v2 outs)∧Hid (SlCh W5 v3 ins_)∧Hid (SlBx W5 v4 (List.replicate ins_.length zbox))∧Hid (W5.heap[w.heap.size]? =some (.cells zSe 41 (0,0)))∧Hid (Below w.heap.size w W5))
 case h2=>
  intro hj R1 B1;refine oT (i:=1) (j:=8) (by kernel_rfl) rfl rfl (fun K hK=> ?_) (fun K hK=> ?_)
  · skip
    refine want rfl ?_;go_simp;refine (qCm _ images _ (HI.out _ B1.out) (by omega)).mono ?_;rintro er W2 ⟨v1,rfl,hv,hb⟩;have V1_2:=hU (KR.Own.sl qKp hv);clear hv;dsimp only;have R2:=nB hb R1;have B2:=hU (B1.out.trans (hb.mono B1.out.size));clear hb R1 B1;refine nx hK trivial fun hS=> ?_;clear hK K;(try simp only [aF])
    refine oT (i:=3) (j:=8) (by kernel_rfl) rfl rfl (fun K hK=> ?_) (fun K hK=> ?_)
    · skip
      refine want rfl ?_;go_simp;refine (iI _ outs _ (HO.out _ B2.out) (by omega)).mono ?_;rintro er W3 ⟨v2,rfl,hv,hb⟩;have V2_3:=hU (KR.Own.sl iO hv);clear hv;dsimp only;have V1_3:=hU (V1_2.out.below hb);clear V1_2;have R3:=nB hb R2;have B3:=hU (B2.out.trans (hb.mono B2.out.size));clear hb R2 B2;refine nx hK trivial fun hS=> ?_;clear hK K;(try simp only [aF])
      refine oT (i:=5) (j:=8) (by kernel_rfl) rfl rfl (fun K hK=> ?_) (fun K hK=> ?_)
      · skip
        refine want rfl ?_;go_simp;refine (iI _ ins_ _ (HN.out _ B3.out) (by omega)).mono ?_;rintro er W4 ⟨v3,rfl,hv,hb⟩;have V3_4:=hU (KR.Own.sl iO hv);clear hv;dsimp only;have V1_4:=hU (V1_3.out.below hb);clear V1_3;have V2_4:=hU (V2_3.out.below hb);clear V2_3;have R4:=nB hb R3;have B4:=hU (B3.out.trans (hb.mono B3.out.size));clear hb R3 B3;refine nx hK trivial fun hS=> ?_;clear hK K;(try simp only [aF])
        refine ro 8 fun K hK=> ?_;refine want rfl ?_;obtain ⟨v4,W5,hrun,hv4,hb⟩:=zV W4 ins_.length h3;refine sJ (vx:=.int .i64 (ins_.length:Int)) (vy:=.int .i64 (ins_.length:Int)) rfl rfl rfl hrun ?_;clear hrun;have V4_5:=hU hv4;clear hv4;have V1_5:=hU (V1_4.out.below hb);clear V1_4;have V2_5:=hU (V2_4.out.below hb);clear V2_4;have V3_5:=hU (V3_4.out.below hb);clear V3_4;have R5:=nB hb R4;have B5:=hU (B4.out.trans (hb.mono B4.out.size));clear hb R4 B4;refine nx hK trivial fun hS=> ?_;clear hK K;(try simp only [aF])
        exact hj v1 v2 v3 v4 W5 ⟨V1_5,V2_5,V3_5,V4_5,R5,B5⟩
      · skip
        refine want rfl ?_;obtain ⟨v4,W4,hrun,hv4,hb⟩:=zV W3 ins_.length h3;refine sJ (vx:=.int .i64 (ins_.length:Int)) (vy:=.int .i64 (ins_.length:Int)) rfl rfl rfl hrun ?_;clear hrun;have V4_4:=hU hv4;clear hv4;have V1_4:=hU (V1_3.out.below hb);clear V1_3;have V2_4:=hU (V2_3.out.below hb);clear V2_3;have R4:=nB hb R3;have B4:=hU (B3.out.trans (hb.mono B3.out.size));clear hb R3 B3;refine nx hK trivial fun hS=> ?_;clear hK K;(try simp only [aF])
        refine ro 5 fun K hK=> ?_;refine want rfl ?_;go_simp;refine (iI _ ins_ _ (HN.out _ B4.out) (by omega)).mono ?_;rintro er W5 ⟨v3,rfl,hv,hb⟩;have V3_5:=hU (KR.Own.sl iO hv);clear hv;dsimp only;have V1_5:=hU (V1_4.out.below hb);clear V1_4;have V2_5:=hU (V2_4.out.below hb);clear V2_4;have V4_5:=hU (V4_4.out.below hb);clear V4_4;have R5:=nB hb R4;have B5:=hU (B4.out.trans (hb.mono B4.out.size));clear hb R4 B4;refine nx hK trivial fun hS=> ?_;clear hK K;(try simp only [aF])
        exact hj v1 v2 v3 v4 W5 ⟨V1_5,V2_5,V3_5,V4_5,R5,B5⟩
    · skip
      refine want rfl ?_;obtain ⟨v4,W3,hrun,hv4,hb⟩:=zV W2 ins_.length h3;refine sJ (vx:=.int .i64 (ins_.length:Int)) (vy:=.int .i64 (ins_.length:Int)) rfl rfl rfl hrun ?_;clear hrun;have V4_3:=hU hv4;clear hv4;have V1_3:=hU (V1_2.out.below hb);clear V1_2;have R3:=nB hb R2;have B3:=hU (B2.out.trans (hb.mono B2.out.size));clear hb R2 B2;refine nx hK trivial fun hS=> ?_;clear hK K;(try simp only [aF])
      refine ro 3 fun K hK=> ?_;refine want rfl ?_;go_simp;refine (iI _ outs _ (HO.out _ B3.out) (by omega)).mono ?_;rintro er W4 ⟨v2,rfl,hv,hb⟩;have V2_4:=hU (KR.Own.sl iO hv);clear hv;dsimp only;have V1_4:=hU (V1_3.out.below hb);clear V1_3;have V4_4:=hU (V4_3.out.below hb);clear V4_3;have R4:=nB hb R3;have B4:=hU (B3.out.trans (hb.mono B3.out.size));clear hb R3 B3;refine nx hK trivial fun hS=> ?_;clear hK K;(try simp only [aF])
      refine ro 5 fun K hK=> ?_;refine want rfl ?_;go_simp;refine (iI _ ins_ _ (HN.out _ B4.out) (by omega)).mono ?_;rintro er W5 ⟨v3,rfl,hv,hb⟩;have V3_5:=hU (KR.Own.sl iO hv);clear hv;dsimp only;have V1_5:=hU (V1_4.out.below hb);clear V1_4;have V4_5:=hU (V4_4.out.below hb);clear V4_4;have V2_5:=hU (V2_4.out.below hb);clear V2_4;have R5:=nB hb R4;have B5:=hU (B4.out.trans (hb.mono B4.out.size));clear hb R4 B4;refine nx hK trivial fun hS=> ?_;clear hK K;(try simp only [aF])
      exact hj v1 v2 v3 v4 W5 ⟨V1_5,V2_5,V3_5,V4_5,R5,B5⟩
  · skip
    refine want rfl ?_;obtain ⟨v4,W2,hrun,hv4,hb⟩:=zV W1 ins_.length h3;refine sJ (vx:=.int .i64 (ins_.length:Int)) (vy:=.int .i64 (ins_.length:Int)) rfl rfl rfl hrun ?_;clear hrun;have V4_2:=hU hv4;clear hv4;have R2:=nB hb R1;have B2:=hU (B1.out.trans (hb.mono B1.out.size));clear hb R1 B1;refine nx hK trivial fun hS=> ?_;clear hK K;(try simp only [aF])
    refine ro 1 fun K hK=> ?_;refine want rfl ?_;go_simp;refine (qCm _ images _ (HI.out _ B2.out) (by omega)).mono ?_;rintro er W3 ⟨v1,rfl,hv,hb⟩;have V1_3:=hU (KR.Own.sl qKp hv);clear hv;dsimp only;have V4_3:=hU (V4_2.out.below hb);clear V4_2;have R3:=nB hb R2;have B3:=hU (B2.out.trans (hb.mono B2.out.size));clear hb R2 B2;refine nx hK trivial fun hS=> ?_;clear hK K;(try simp only [aF])
    refine ro 3 fun K hK=> ?_;refine want rfl ?_;go_simp;refine (iI _ outs _ (HO.out _ B3.out) (by omega)).mono ?_;rintro er W4 ⟨v2,rfl,hv,hb⟩;have V2_4:=hU (KR.Own.sl iO hv);clear hv;dsimp only;have V4_4:=hU (V4_3.out.below hb);clear V4_3;have V1_4:=hU (V1_3.out.below hb);clear V1_3;have R4:=nB hb R3;have B4:=hU (B3.out.trans (hb.mono B3.out.size));clear hb R3 B3;refine nx hK trivial fun hS=> ?_;clear hK K;(try simp only [aF])
    refine ro 5 fun K hK=> ?_;refine want rfl ?_;go_simp;refine (iI _ ins_ _ (HN.out _ B4.out) (by omega)).mono ?_;rintro er W5 ⟨v3,rfl,hv,hb⟩;have V3_5:=hU (KR.Own.sl iO hv);clear hv;dsimp only;have V4_5:=hU (V4_4.out.below hb);clear V4_4;have V1_5:=hU (V1_4.out.below hb);clear V1_4;have V2_5:=hU (V2_4.out.below hb);clear V2_4;have R5:=nB hb R4;have B5:=hU (B4.out.trans (hb.mono B4.out.size));clear hb R4 B4;refine nx hK trivial fun hS=> ?_;clear hK K;(try simp only [aF])
    exact hj v1 v2 v3 v4 W5 ⟨V1_5,V2_5,V3_5,V4_5,R5,B5⟩
 rintro v1 v2 v3 v4 W5 ⟨V1,V2,V3,V4,R5,B5⟩;have hS:(fun W:World=> True) W5:=trivial;obtain ⟨a1,c1,rfl,_,_⟩:=V1.out.shape;obtain ⟨a2,c2,rfl,_,_⟩:=V2.out.shape;obtain ⟨a3,c3,rfl,_,_⟩:=V3.out.shape;obtain ⟨a4,c4,rfl,_,_⟩:=V4.out.shape;replace V4:=hU (by have:=V4.out;rwa [List.length_replicate] at this);refine ts [.p 10,.p 11] ?_;refine ro 12 fun K hK=> ?_;go_simp;obtain ⟨b,hab,hb1⟩:∃ b,W5.heap.size=b∧w.heap.size<b:=⟨_,rfl,by have:=hlt R5.out;exact this⟩
 obtain ⟨W6,hWn,hba,hK6⟩:=nb1 (.cells #[.slice none 0 0,.slice none 0 0,.int .i64 0,.slice none 0 0,.slice none 0 0,.int .i64 0,.slice none 0 0,.int .u64 now,(.slice a1 images.length c1),(.slice a2 outs.length c2),(.slice a3 ins_.length c3),(.slice a4 ins_.length c4),.string ⟨#[]⟩,.slice none 0 0,.slice none 0 0,.int .i64 0,.int .i64 0] 104) hab;rw [hWn];clear hWn;try rw [hab]
 have K6:Hid (W6.heap[b]? =some (.cells (aJ (⟨.slice none 0 0,.slice none 0 0,.slice none 0 0,.slice none 0 0,.slice none 0 0,(.slice a1 images.length c1),(.slice a2 outs.length c2),(.slice a3 ins_.length c3),(.slice a4 ins_.length c4),.slice none 0 0,.slice none 0 0⟩:Lay) ({p:=[],t:=⟨[],0⟩,s:=[],aG:=[],hs:=0,h:=[],now:=now,images:=images,outs:=outs,ins_:=ins_,box:=List.replicate ins_.length ⟨[],0⟩,cons:=⟨#[]⟩,trace:=[],sent:=[],want:=0,gone:=0}:aI)) 104 (0,0))):=hU hK6.out;have R6:=nB hba R5;have L6:Hid (aH W6 (⟨.slice none 0 0,.slice none 0 0,.slice none 0 0,.slice none 0 0,.slice none 0 0,(.slice a1 images.length c1),(.slice a2 outs.length c2),(.slice a3 ins_.length c3),(.slice a4 ins_.length c4),.slice none 0 0,.slice none 0 0⟩:Lay) (List.replicate ins_.length zbox) ({p:=[],t:=⟨[],0⟩,s:=[],aG:=[],hs:=0,h:=[],now:=now,images:=images,outs:=outs,ins_:=ins_,box:=List.replicate ins_.length ⟨[],0⟩,cons:=⟨#[]⟩,trace:=[],sent:=[],want:=0,gone:=0}:aI)):=hU ⟨Sl.nil,Sl.nil,Sl.nil,Sl.nil,Sl.nil,V1.out.below hba,V2.out.below hba,V3.out.below hba,V4.out.below hba,by rw [List.map_replicate];rfl,fun x hx=> by rw [List.eq_of_mem_replicate hx];exact qTt _,Sl.nil,Sl.nil⟩;have E6:Hid (KR.Kept b w W6):=hU (Kept.of (B5.out.trans (hba.mono B5.out.size)));have hz6:=E6.out.size;clear hba hK6 R5 B5 V1 V2 V3 V4 hab;refine nx hK trivial fun hS=> ?_;clear hK K;(try simp only [aF])
 refine tp 13 ?_;try simp only [aF]
 obtain ⟨y6,hy6⟩:∃ y6,(⟨.slice none 0 0,.slice none 0 0,.slice none 0 0,.slice none 0 0,.slice none 0 0,(.slice a1 images.length c1),(.slice a2 outs.length c2),(.slice a3 ins_.length c3),(.slice a4 ins_.length c4),.slice none 0 0,.slice none 0 0⟩:Lay)=y6:=⟨_,rfl⟩
 obtain ⟨k6,hk6⟩:∃ k6,({p:=[],t:=⟨[],0⟩,s:=[],aG:=[],hs:=0,h:=[],now:=now,images:=images,outs:=outs,ins_:=ins_,box:=List.replicate ins_.length ⟨[],0⟩,cons:=⟨#[]⟩,trace:=[],sent:=[],want:=0,gone:=0}:aI)=k6:=⟨_,rfl⟩
 obtain ⟨bs6,hb6⟩:∃ bs6,(List.replicate ins_.length zbox)=bs6:=⟨_,rfl⟩
 rw [hy6,hk6] at K6;rw [hy6,hk6,hb6] at L6;clear hy6 hb6;refine aZ (by kernel_rfl) (NoPanic.normal ?_) _;clear hS;refine sg ?_;intros;refine (HNew mem _).mono ?_;rintro er W7 ⟨rfl,hb⟩;obtain ⟨K7,R7,E7,L7⟩:=n4 hb K6 R6 E6 L6;clear K6 R6 E6 L6;clear hb;dsimp only
 repeat' (first
  |(refine sN 34 (.agg #[.int .i64 (if mem<0 then 0 else mem),.slice none 0 0]) 5 (aJ {y6 with h:=.slice none 0 0} ({k6 with hs:=(if mem<0 then 0 else mem)}:aI)) iC.size K7.out (by intro u hu;simp [Value.cells] at hu;rcases hu with rfl|rfl <;> rfl) fun W8 hp=> ?_
    have L8:Hid (aH W8 {y6 with h:=.slice none 0 0} bs6 ({k6 with hs:=(if mem<0 then 0 else mem)}:aI)):=hU ((L7.out.xAa (if mem<0 then 0 else mem) (v:=.slice none 0 0) (by rw [← hk6];exact Sl.nil)).put K7.out cI hp);have E8:=pK hp E7;have K8:Hid (W8.heap[b]? =some (.cells (aJ {y6 with h:=.slice none 0 0} ({k6 with hs:=(if mem<0 then 0 else mem)}:aI)) 104 (0,0))):=pA hp;have R8:=pT hp K7 R7;clear hp;clear K7 R7 E7 L7)
  |go_values|go_skip|go_guarded|refine wg ?_|go_step|go_upon)
 obtain ⟨k8,hk8⟩:∃ k8,({k6 with hs:=(if mem<0 then 0 else mem)}:aI)=k8:=⟨_,rfl⟩
 have hk8p:k8.p=[]∧k8.t.l=[]∧k8.aG=[]∧k8.h=[]∧k8.images=images∧k8.hs=(if mem<0 then 0 else mem):=by rw [← hk8,← hk6];exact ⟨rfl,rfl,rfl,rfl,rfl,rfl⟩
 have hboot:eK mem images outs ins_ now=if (if dA k8 0=0 then fN k8 else dA k8 0)=0 then (if dA k8 0=0 then fresh k8 {Proc.zero with mem:=eG k8 0} else k8) else {(if dA k8 0=0 then fresh k8 {Proc.zero with mem:=eG k8 0} else k8) with gone:=1}:=by rw [← hk8,← hk6];rfl
 rw [hk8] at K8 L8;have HBO:=hU hboot;clear hk8 hk6 hboot;refine sg ?_;intros;refine (qAd b k8 0 _ ⟨_,_,K8.out,L8.out⟩ (by decide) (by decide) (by rw [hk8p.2.2.2.2.1];omega)).mono ?_;rintro er W9 ⟨rfl,hb⟩;obtain ⟨K9,R9,E9,L9⟩:=n4 hb K8 R8 E8 L8;clear K8 R8 E8 L8;clear hb;dsimp only;obtain ⟨im,him⟩:∃ im,eG k8 0=im:=⟨_,rfl⟩
 obtain ⟨ie,hie⟩:∃ ie,dA k8 0=ie:=⟨_,rfl⟩
 rw [him,hie] at HBO ⊢;clear him hie;by_cases hi0:ie=0
 · subst hi0;refine sg ?_;intros;refine (qHh b k8 ({Proc.zero with mem:=im}:Proc) _ ⟨_,_,K9.out,L9.out⟩ (by rw [hk8p.1];decide) (by rw [hk8p.2.1];decide) (by rw [hk8p.2.2.1];decide) (by rw [hk8p.2.2.1];intro q hq;cases hq) (by rw [hk8p.2.2.2.1];decide) (by rw [hk8p.2.2.2.2.2];split <;> omega) (by rw [hk8p.2.2.2.2.2];split <;> omega) (by rw [hk8p.1];intro q hq;cases hq)).mono ?_;rintro er W10 ⟨hret,⟨y10,bs10,hkk,hll⟩,hke⟩;have R10:=mB hke R9;have K10:=hU hkk;have E10:=mE hke E9;have L10:=hU hll;clear hkk hll hke;clear K9 R9 E9 L9;subst hret;dsimp only;obtain ⟨fe,hfe⟩:∃ fe,fN k8=fe:=⟨_,rfl⟩
   obtain ⟨fv,hfv⟩:∃ fv,lD k8=fv:=⟨_,rfl⟩
   rw [hfe] at HBO ⊢;rw [hfv];clear hfe hfv;by_cases hf0:fe=0
   · subst hf0;have hbo0:eK mem images outs ins_ now=(fresh k8 {Proc.zero with mem:=im}):=by rw [HBO.out,if_pos rfl,if_pos rfl,if_pos rfl]
     have hbo:=hU hbo0;clear HBO hbo0
     repeat' (first
      |(refine aE (t:=41) (v:=.agg (aJ y10 (fresh k8 {Proc.zero with mem:=im}))) rfl rfl rfl (aD cR K10.out rfl) ?_)
      |(refine sN 41 (.agg (aJ y10 (fresh k8 {Proc.zero with mem:=im}))) 0 (aJ y10 (fresh k8 {Proc.zero with mem:=im})) cR.size R10.out (nS L10.out) fun W11 hp=> ?_
        have E11:=pE hp E10;have L11:=pL hp R10 L10;have R11:=pA hp;have K11:=pT hp R10 K10;clear hp;clear K10 R10 E10 L10)
      |go_values|go_skip|go_guarded|refine wg ?_|go_step|go_upon)
     (try simp only [Exit.inBlock,Exit.then]);refine bodyPost_ret (cJ results12 cR rfl R11.out rfl) rfl ?_
     rw [hbo.out];exact ⟨_,rfl,⟨_,_,rfl,L11.out⟩,Kept.low E11.out (by omega)⟩
   · have hfn:(fe !=0)=true:=by simpa using hf0
     have hbo0:eK mem images outs ins_ now={(fresh k8 {Proc.zero with mem:=im}) with gone:=1}:=by rw [HBO.out,if_pos rfl,if_neg hf0,if_pos rfl]
     have hbo:=hU hbo0;clear HBO hbo0
     repeat' (first
      |(refine kS 3 (.int .i64 1) 16 y10 ({(fresh k8 {Proc.zero with mem:=im}) with gone:=1}:aI) cO K10 E10 (L10.out.qEt 1) fun W11 hp L11 E11 K11=> ?_
        have R11:=pT hp K10 R10;clear hp;clear K10 R10 E10 L10)
      |(refine aE (t:=41) (v:=.agg (aJ y10 ({(fresh k8 {Proc.zero with mem:=im}) with gone:=1}:aI))) rfl rfl rfl (aD cR K11.out rfl) ?_)
      |(refine sN 41 (.agg (aJ y10 ({(fresh k8 {Proc.zero with mem:=im}) with gone:=1}:aI))) 0 (aJ y10 ({(fresh k8 {Proc.zero with mem:=im}) with gone:=1}:aI)) cR.size R11.out (nS L11.out) fun W12 hp=> ?_
        have E12:=pE hp E11;have L12:=pL hp R11 L11;have R12:=pA hp;have K12:=pT hp R11 K11;clear hp;clear K11 R11 E11 L11)
      |go_values|go_skip|go_guarded|refine wg ?_|go_step|go_upon)
     (try simp only [Exit.inBlock,Exit.then]);refine bodyPost_ret (cJ results12 cR rfl R12.out rfl) rfl ?_
     rw [hbo.out];exact ⟨_,rfl,⟨_,_,rfl,L12.out⟩,Kept.low E12.out (by omega)⟩
 · have hin:(ie==0)=false:=by simpa using hi0
   have hin2:(ie !=0)=true:=by simpa using hi0
   have hbo0:eK mem images outs ins_ now={k8 with gone:=1}:=by rw [HBO.out,if_neg hi0,if_neg hi0,if_neg hi0]
   have hbo:=hU hbo0;clear HBO hbo0
   repeat' (first
    |(refine kS 3 (.int .i64 1) 16 {y6 with h:=.slice none 0 0} ({k8 with gone:=1}:aI) cO K9 E9 (L9.out.qEt 1) fun W10 hp L10 E10 K10=> ?_
      have R10:=pT hp K9 R9;clear hp;clear K9 R9 E9 L9)
    |(refine aE (t:=41) (v:=.agg (aJ {y6 with h:=.slice none 0 0} ({k8 with gone:=1}:aI))) rfl rfl rfl (aD cR K10.out rfl) ?_)
    |(refine sN 41 (.agg (aJ {y6 with h:=.slice none 0 0} ({k8 with gone:=1}:aI))) 0 (aJ {y6 with h:=.slice none 0 0} ({k8 with gone:=1}:aI)) cR.size R10.out (nS L10.out) fun W11 hp=> ?_
      have E11:=pE hp E10;have L11:=pL hp R10 L10;have R11:=pA hp;have K11:=pT hp R10 K10;clear hp;clear K10 R10 E10 L10)
    |go_values|go_skip|go_guarded|refine wg ?_|go_step|go_upon)
   (try simp only [Exit.inBlock,Exit.then]);refine bodyPost_ret (cJ results12 cR rfl R11.out rfl) rfl ?_
   rw [hbo.out];exact ⟨_,rfl,⟨_,_,rfl,L11.out⟩,Kept.low E11.out (by omega)⟩
theorem qNo (v:Value) (k:aI) (n:Int) (body:ByteArray) (at_:Int) (w:World) (hk:pV w v k) (hbl:k.box.length≤1000000) (hil:k.ins_.length≤1000000) (hbd:∀ q ∈ k.box,q.l.length≤1000000∧ -4611686018427387904≤q.lost∧q.lost≤4611686018427387904) (hn:n<0):
 Calls prog 104 #[v,.int .i64 n,.string body,.int .u64 at_] w (oX (dI k n body at_) w):=by
 obtain ⟨y0,bs,rfl,hl⟩:=hk;obtain ⟨b,hb2⟩:∃ b,w.heap.size=b:=⟨_,rfl⟩
 have hbn:bs.length=k.box.length:=by rw [← hl.bse,List.length_map]
 have hres:dI k n body at_=k:=by rw [dI,if_pos (.inl hn)]
 have hnb:decide (n<0)=true:=by simp [hn]
 rw [hres];clear hres;have hbs1:bs.length≤1000000:=by omega
 clear hbn;obtain ⟨ia,ic,hia,hic,_⟩:=hl.ins_.shape;have HIA:=hU hia;clear hia;obtain ⟨ba,bc,hba,hbc,_⟩:=hl.bx.shape;have HBA:=hU hba;clear hba;obtain ⟨W0,hW0,K0,R0,E0,L0,hz0,hzK,hzR⟩:=stA hl hb2;have kI:W0.cell? ⟨b,10,none⟩=some (.slice ia k.ins_.length ic):=((aC K0.out 10).trans (congrArg some HIA.out))
 have kB:W0.cell? ⟨b,11,none⟩=some (.slice ba bs.length bc):=((aC K0.out 11).trans (congrArg some HBA.out))
 go_in
 repeat' (first
  |(rw [hW0,hb2];clear hW0)
  |(refine aE (t:=41) (v:=.agg (aJ y0 k)) rfl rfl rfl (aD cR K0.out rfl) ?_)
  |(refine sN 41 (.agg (aJ y0 k)) 0 (aJ y0 k) cR.size R0.out (nS L0.out) fun W1 hp=> ?_
    have E1:=pE hp E0;have L1:=pL hp R0 L0;have R1:=pA hp;have K1:=pO hp K0;clear hp;clear K0 R0 E0 L0)
  |go_values|go_skip|go_guarded|refine wg ?_|go_step|go_upon)
 (try simp only [Exit.inBlock,Exit.then]);refine bodyPost_ret (cJ results104 cR rfl R1.out rfl) rfl ?_
 exact ⟨_,rfl,⟨_,_,rfl,L1.out⟩,Kept.low E1.out (by omega)⟩
theorem qNp (v:Value) (k:aI) (n:Int) (body:ByteArray) (at_:Int) (w:World) (hk:pV w v k) (hbl:k.box.length≤1000000) (hil:k.ins_.length≤1000000) (hbd:∀ q ∈ k.box,q.l.length≤1000000∧ -4611686018427387904≤q.lost∧q.lost≤4611686018427387904) (j:Nat) (hj:n=(j:Int)) (h1:k.ins_.length≤j):
 Calls prog 104 #[v,.int .i64 n,.string body,.int .u64 at_] w (oX (dI k n body at_) w):=by
 obtain ⟨y0,bs,rfl,hl⟩:=hk;obtain ⟨b,hb2⟩:∃ b,w.heap.size=b:=⟨_,rfl⟩
 have hbn:bs.length=k.box.length:=by rw [← hl.bse,List.length_map]
 subst hj;have hres:dI k (j:Int) body at_=k:=by rw [dI,if_pos (.inr (.inl (by omega)))]
 rw [hres];clear hres;have hj0:¬ ((j:Int)<0):=by omega
 have hjd:decide ((j:Int)<0)=false:=by simp
 have hL1:decide ((k.ins_.length:Int)≤(j:Int))=true:=by simp;omega
 have hL1n:decide (k.ins_.length≤j)=true:=by simp;omega
 have hbs1:bs.length≤1000000:=by omega
 clear hbn;obtain ⟨ia,ic,hia,hic,_⟩:=hl.ins_.shape;have HIA:=hU hia;clear hia;obtain ⟨ba,bc,hba,hbc,_⟩:=hl.bx.shape;have HBA:=hU hba;clear hba;obtain ⟨W0,hW0,K0,R0,E0,L0,hz0,hzK,hzR⟩:=stA hl hb2;have kI:W0.cell? ⟨b,10,none⟩=some (.slice ia k.ins_.length ic):=((aC K0.out 10).trans (congrArg some HIA.out))
 have kB:W0.cell? ⟨b,11,none⟩=some (.slice ba bs.length bc):=((aC K0.out 11).trans (congrArg some HBA.out))
 go_in
 repeat' (first
  |(rw [hW0,hb2];clear hW0)
  |(refine aE (t:=41) (v:=.agg (aJ y0 k)) rfl rfl rfl (aD cR K0.out rfl) ?_)
  |(refine sN 41 (.agg (aJ y0 k)) 0 (aJ y0 k) cR.size R0.out (nS L0.out) fun W1 hp=> ?_
    have E1:=pE hp E0;have L1:=pL hp R0 L0;have R1:=pA hp;have K1:=pO hp K0;clear hp;clear K0 R0 E0 L0)
  |go_values|go_skip|go_guarded|refine wg ?_|go_step|go_upon)
 (try simp only [Exit.inBlock,Exit.then]);refine bodyPost_ret (cJ results104 cR rfl R1.out rfl) rfl ?_
 exact ⟨_,rfl,⟨_,_,rfl,L1.out⟩,Kept.low E1.out (by omega)⟩
theorem qNq (v:Value) (k:aI) (n:Int) (body:ByteArray) (at_:Int) (w:World) (hk:pV w v k) (hbl:k.box.length≤1000000) (hil:k.ins_.length≤1000000) (hbd:∀ q ∈ k.box,q.l.length≤1000000∧ -4611686018427387904≤q.lost∧q.lost≤4611686018427387904) (j:Nat) (hj:n=(j:Int)) (h1:¬ k.ins_.length≤j) (h2:k.box.length≤j):
 Calls prog 104 #[v,.int .i64 n,.string body,.int .u64 at_] w (oX (dI k n body at_) w):=by
 obtain ⟨y0,bs,rfl,hl⟩:=hk;obtain ⟨b,hb2⟩:∃ b,w.heap.size=b:=⟨_,rfl⟩
 have hbn:bs.length=k.box.length:=by rw [← hl.bse,List.length_map]
 subst hj;have hres:dI k (j:Int) body at_=k:=by rw [dI,if_pos (.inr (.inr (by omega)))]
 rw [hres];clear hres;have hj0:¬ ((j:Int)<0):=by omega
 have hjd:decide ((j:Int)<0)=false:=by simp
 have hL1:decide ((k.ins_.length:Int)≤(j:Int))=false:=by simp;omega
 have hL1n:decide (k.ins_.length≤j)=false:=by simp;omega
 have hL2:decide ((bs.length:Int)≤(j:Int))=true:=by simp;omega
 have hL2n:decide (bs.length≤j)=true:=by simp;omega
 have hbs1:bs.length≤1000000:=by omega
 clear hbn;obtain ⟨ia,ic,hia,hic,_⟩:=hl.ins_.shape;have HIA:=hU hia;clear hia;obtain ⟨ba,bc,hba,hbc,_⟩:=hl.bx.shape;have HBA:=hU hba;clear hba;obtain ⟨W0,hW0,K0,R0,E0,L0,hz0,hzK,hzR⟩:=stA hl hb2;have kI:W0.cell? ⟨b,10,none⟩=some (.slice ia k.ins_.length ic):=((aC K0.out 10).trans (congrArg some HIA.out))
 have kB:W0.cell? ⟨b,11,none⟩=some (.slice ba bs.length bc):=((aC K0.out 11).trans (congrArg some HBA.out))
 go_in
 repeat' (first
  |(rw [hW0,hb2];clear hW0)
  |(refine aE (t:=41) (v:=.agg (aJ y0 k)) rfl rfl rfl (aD cR K0.out rfl) ?_)
  |(refine sN 41 (.agg (aJ y0 k)) 0 (aJ y0 k) cR.size R0.out (nS L0.out) fun W1 hp=> ?_
    have E1:=pE hp E0;have L1:=pL hp R0 L0;have R1:=pA hp;have K1:=pO hp K0;clear hp;clear K0 R0 E0 L0)
  |go_values|go_skip|go_guarded|refine wg ?_|go_step|go_upon)
 (try simp only [Exit.inBlock,Exit.then]);refine bodyPost_ret (cJ results104 cR rfl R1.out rfl) rfl ?_
 exact ⟨_,rfl,⟨_,_,rfl,L1.out⟩,Kept.low E1.out (by omega)⟩
theorem qNr (v:Value) (k:aI) (n:Int) (body:ByteArray) (at_:Int) (w:World) (hk:pV w v k) (hbl:k.box.length≤1000000) (hil:k.ins_.length≤1000000) (hbd:∀ q ∈ k.box,q.l.length≤1000000∧ -4611686018427387904≤q.lost∧q.lost≤4611686018427387904) (j:Nat) (hj:n=(j:Int)) (h1:¬ k.ins_.length≤j) (h2:¬ k.box.length≤j):
 Calls prog 104 #[v,.int .i64 n,.string body,.int .u64 at_] w (oX (dI k n body at_) w):=by
 obtain ⟨y0,bs,rfl,hl⟩:=hk;obtain ⟨b,hb2⟩:∃ b,w.heap.size=b:=⟨_,rfl⟩
 have hbn:bs.length=k.box.length:=by rw [← hl.bse,List.length_map]
 subst hj;have hj0:¬ ((j:Int)<0):=by omega
 have hjd:decide ((j:Int)<0)=false:=by simp
 have hL1:decide ((k.ins_.length:Int)≤(j:Int))=false:=by simp;omega
 have hL1n:decide (k.ins_.length≤j)=false:=by simp;omega
 have hL2:decide ((bs.length:Int)≤(j:Int))=false:=by simp;omega
 have hL2n:decide (bs.length≤j)=false:=by simp;omega
 have hi1:¬ k.ins_.length≤j:=h1;have hi2:¬ bs.length≤j:=by omega
 obtain ⟨c,hc⟩:∃ c,k.ins_[j]? =some c:=⟨_,List.getElem?_eq_getElem (by omega)⟩
 obtain ⟨z,hz⟩:∃ z,bs[j]? =some z:=⟨_,List.getElem?_eq_getElem (by omega)⟩
 have hzb:k.box[j]? =some z.b:=by rw [← hl.bse,List.getElem?_map,hz];rfl
 have hzm:z ∈ bs:=List.mem_of_getElem? hz;have hzd:=hbd z.b (List.mem_of_getElem? hzb)
 have hres:dI k (j:Int) body at_={k with box:=k.box.set j (tU c z.b at_ body)}:=by
  rw [dI,if_neg (by omega)];simp only [Int.toNat_natCast];rw [hc,hzb]
 rw [hres];clear hres;have hbs1:bs.length≤1000000:=by omega
 clear hbn;obtain ⟨ia,ic,hia,hic,_⟩:=hl.ins_.shape;have HIA:=hU hia;clear hia;obtain ⟨ba,bc,hba,hbc,_⟩:=hl.bx.shape;have HBA:=hU hba;clear hba;obtain ⟨W0,hW0,K0,R0,E0,L0,hz0,hzK,hzR⟩:=stA hl hb2;obtain ⟨pa,pc,hpa,hpc0,hpc1,h0|⟨gi,oi,ci,ha,hgi,hii⟩⟩:=L0.out.ins_
 · rw [h0] at hi1;exact absurd (Nat.zero_le _) hi1
 rw [HIA.out] at hpa;injection hpa with hpa hpn hpc
 clear hpn;subst hpa hpc;subst ha;have HCI:=hU (hii _ _ hc);clear hii hc hpc0 hpc1;obtain ⟨pa,pc,hpa,hpc0,hpc1,h0|⟨gx,ox,cx,ha,hgx,hxx⟩⟩:=L0.out.bx
 · rw [h0] at hi2;exact absurd (Nat.zero_le _) hi2
 rw [HBA.out] at hpa;injection hpa with hpa hpn hpc
 clear hpn;subst hpa hpc;subst ha;have HCX:=hU (hxx _ _ hz);clear hxx hz hpc0 hpc1;have kI:W0.cell? ⟨b,10,none⟩=some (.slice (some ⟨gi,oi,none⟩) k.ins_.length ic):=((aC K0.out 10).trans (congrArg some HIA.out))
 have kB:W0.cell? ⟨b,11,none⟩=some (.slice (some ⟨gx,ox,none⟩) bs.length bc):=((aC K0.out 11).trans (congrArg some HBA.out))
 go_in
 repeat' (first
  |(rw [hW0,hb2];clear hW0)
  |go_values|go_skip|go_guarded|refine wg ?_|go_step|go_upon)
 clear kI kB;have I0:=hU hgi;clear hgi;have Q0:=hU hgx;clear hgx;have hjI:(j:Int)<(k.ins_.length:Int):=by omega
 have hjB:(j:Int)<(bs.length:Int):=by omega
 have hj1:(0:Int)≤(j:Int):=by omega
 clear hj0 hjd hL1 hL2 hL1n hL2n;refine wp_region_noPanic ?_;refine go0 (S:=fun W=> (W.cell? ⟨b,10,none⟩=some (.slice (some ⟨gi,oi,none⟩) k.ins_.length ic))∧(W.cell? ⟨b,11,none⟩=some (.slice (some ⟨gx,ox,none⟩) bs.length bc))∧(W.heap[gi]? =some (.cells ci 102 (0,0)))∧(W.heap[gx]? =some (.cells cx 145 (0,0)))) [17] (⟨((aC K0.out 10).trans (congrArg some HIA.out)),((aC K0.out 11).trans (congrArg some HBA.out)),I0.out,Q0.out⟩) fun hS=> ?_;obtain ⟨W1,hWd⟩:=exW W0.drew;obtain ⟨K1,R1,I1,Q1,E1,L1⟩:=n6 (dW hWd) K0 R0 I0 Q0 E0 L0;rw [hWd] at hS ⊢;clear hWd;clear K0 R0 I0 Q0 E0 L0;refine ts [.p 0,.l 1,.p 2,.p 3] ?_;refine tv 4 (.agg c.cells) (fun W hSW=> aR rfl rfl (cA (o:=oi + j * 5) tR rfl (fun _ u hu=> (aC hSW.2.2.1 _).trans (HCI.out _ u hu)))) ?_;(try simp only [aF])
 refine ts [.p 5,.l 6,.p 7,.p 8] ?_;refine tv 9 (.agg (aX z)) (fun W hSW=> aR rfl rfl (cA (o:=ox + j * 2) lB rfl (fun _ u hu=> (aC hSW.2.2.2 _).trans (HCX.out _ u hu)))) ?_;(try simp only [aF])
 refine ts [.p 10,.p 11] ?_;clear hS;revert K1 R1 I1 Q1 E1 L1;apply KR.qPi (F:=fun (abB:Nat) (yb:fY) (er2:Int) (W3:World)=> Hid (W3.heap[abB]? =some (.cells #[.slice none 0 0,.int .i64 0] 145 (0,0)))∧Hid (W3.heap[gi]? =some (.cells ci 102 (0,0)))∧Hid (W3.heap[b]? =some (.cells (aJ y0 k) 41 (0,0)))∧Hid (W3.heap[gx]? =some (.cells cx 145 (0,0)))∧Hid (W3.heap[(b + 1)]? =some (.cells zSe 41 (0,0)))∧Hid (KR.Kept b w W3)∧Hid (aH W3 y0 bs k)∧Hid (Sl 196 2 Msg.cells W3 (.slice yb.a yb.b.l.length yb.c) yb.b.l)∧(w.heap.size≤abB)∧(b<abB)∧(b + 1<abB)∧(gx<abB)∧(gL y0.bx bs.length abB)∧(Hid (yb.b=tU c z.b at_ body)))
 case h2=>
  intro hj K1 R1 I1 Q1 E1 L1;refine oT (i:=12) (j:=16) (by kernel_rfl) rfl rfl (fun K hK=> ?_) (fun K hK=> ?_)
  · skip
    refine want rfl ?_;go_simp;refine (qTx c z at_ body _ (L1.out.ok z hzm) hzd.1 hzd.2.1 hzd.2.2).mono ?_;rintro er W2 ⟨yb,er2,rfl,hyb,hbo,hb⟩;obtain ⟨K2,R2,I2,Q2,E2,L2⟩:=n6 hb K1 R1 I1 Q1 E1 L1;clear K1 R1 I1 Q1 E1 L1;have BO2:=hU hbo;clear hb;dsimp only;try clear hS
    refine nx hK (⟨((aC K2.out 10).trans (congrArg some HIA.out)),((aC K2.out 11).trans (congrArg some HBA.out)),I2.out,Q2.out⟩) fun hS=> ?_;clear hK K;(try simp only [aF])
    refine ts [.p 13,.p 14,.p 15] ?_;have HYB:=hU hyb;clear hyb hbo;refine ro 16 fun K hK=> ?_;obtain ⟨abB,hab,hab1B⟩:=nb0 E2;have habKB:=nlt K2 hab;have habRB:=nlt R2 hab;have habIB:=nlt I2 hab;have habQB:=nlt Q2 hab;have hoffB:=L2.out.bx.dJ (Nat.le_of_eq hab);go_simp;obtain ⟨W3,hWn,hba,B3⟩:=nb1 (.cells #[.slice none 0 0,.int .i64 0] 145) hab;rw [hWn];clear hWn;obtain ⟨K3,R3,I3,Q3,E3,L3⟩:=n6 hba K2 R2 I2 Q2 E2 L2;have BO3:=hU (BO2.out.below hba);clear K2 R2 I2 Q2 E2 L2 BO2;clear hba;try rw [hab]
    clear hab;try clear hS
    refine nx hK (⟨((aC K3.out 10).trans (congrArg some HIA.out)),((aC K3.out 11).trans (congrArg some HBA.out)),I3.out,Q3.out⟩) fun hS=> ?_;clear hK K;(try simp only [aF])
    exact hj abB yb er2 W3 ⟨B3,I3,K3,Q3,R3,E3,L3,BO3,hab1B,habKB,habRB,habQB,hoffB,HYB⟩
  · skip
    obtain ⟨abB,hab,hab1B⟩:=nb0 E1;have habKB:=nlt K1 hab;have habRB:=nlt R1 hab;have habIB:=nlt I1 hab;have habQB:=nlt Q1 hab;have hoffB:=L1.out.bx.dJ (Nat.le_of_eq hab);go_simp;obtain ⟨W2,hWn,hba,B2⟩:=nb1 (.cells #[.slice none 0 0,.int .i64 0] 145) hab;rw [hWn];clear hWn;obtain ⟨K2,R2,I2,Q2,E2,L2⟩:=n6 hba K1 R1 I1 Q1 E1 L1;clear K1 R1 I1 Q1 E1 L1;clear hba;try rw [hab]
    clear hab;try clear hS
    refine nx hK (⟨((aC K2.out 10).trans (congrArg some HIA.out)),((aC K2.out 11).trans (congrArg some HBA.out)),I2.out,Q2.out⟩) fun hS=> ?_;clear hK K;(try simp only [aF])
    refine ro 12 fun K hK=> ?_;refine want rfl ?_;go_simp;refine (qTx c z at_ body _ (L2.out.ok z hzm) hzd.1 hzd.2.1 hzd.2.2).mono ?_;rintro er W3 ⟨yb,er2,rfl,hyb,hbo,hb⟩;have K3:=nB hb K2;obtain ⟨R3,I3,Q3,B3,E3,L3⟩:=n6 hb R2 I2 Q2 B2 E2 L2;clear K2 R2 I2 Q2 B2 E2 L2;have BO3:=hU hbo;clear hb;dsimp only;try clear hS
    refine nx hK (⟨((aC K3.out 10).trans (congrArg some HIA.out)),((aC K3.out 11).trans (congrArg some HBA.out)),I3.out,Q3.out⟩) fun hS=> ?_;clear hK K;(try simp only [aF])
    refine ts [.p 13,.p 14,.p 15] ?_;have HYB:=hU hyb;clear hyb hbo;exact hj abB yb er2 W3 ⟨B3,I3,K3,Q3,R3,E3,L3,BO3,hab1B,habKB,habRB,habQB,hoffB,HYB⟩
 rintro abB yb er2 W3 ⟨B3,I3,K3,Q3,R3,E3,L3,BO3,hab1B,habKB,habRB,habQB,hoffB,HYB⟩;have hS:(fun W:World=> (W.cell? ⟨b,10,none⟩=some (.slice (some ⟨gi,oi,none⟩) k.ins_.length ic))∧(W.cell? ⟨b,11,none⟩=some (.slice (some ⟨gx,ox,none⟩) bs.length bc))∧(W.heap[gi]? =some (.cells ci 102 (0,0)))∧(W.heap[gx]? =some (.cells cx 145 (0,0)))) W3:=⟨((aC K3.out 10).trans (congrArg some HIA.out)),((aC K3.out 11).trans (congrArg some HBA.out)),I3.out,Q3.out⟩
 refine ro 17 fun K hK=> ?_;refine want rfl ?_;refine cL (v:=.agg (aX yb)) (off:=0) (new:=(aX yb)) rfl rfl rfl lB.size B3.out rfl (show 0 + 2≤2 by decide) (qEi yb) rfl ?_;intro W4 hp;have E4:=pE hp E3;have L4:Hid (aH W4 y0 bs k):=hU (L3.out.qPu hoffB B3.out hp);have B4:=pA hp;have K4:=pT hp B3 K3;have R4:=pT hp B3 R3;have I4:=pT hp B3 I3;have Q4:=pO hp Q3;have BO4:=hU (BO3.out.put B3.out hp (by decide));clear hp;clear K3 R3 I3 Q3 B3 E3 L3 BO3;refine nt hK ?_;clear hK K;try clear hS
 (try simp only [aF])
 refine tp 18 ?_;try simp only [aF]
 refine aZ (by kernel_rfl) (NoPanic.normal ?_) _;try clear hS
 clear I4;clear Q4;have kB4:W4.cell? ⟨b,11,none⟩=some y0.bx:=aC K4.out 11;refine sg ?_;intros;have hG6:=hlt B4.out;have hE6:=E4.out.size;refine (qFq y0.bx bs _ L4.out.bx (by omega)).mono ?_;rintro er W5 ⟨vc,rfl,ho,hb⟩;obtain ⟨K5,R5,B5,E5,L5⟩:=n5 hb K4 R4 B4 E4 L4;have BO5:=hU (BO4.out.below hb);clear K4 R4 B4 E4 L4 BO4;clear hb kB4;have hne:bs ≠ []:=fun h=> by rw [h] at hi2;exact hi2 (Nat.zero_le _)
 obtain ⟨gc,cap,cur2,rfl,hB,hrow⟩:=Own.row ho hne;clear ho hne;dsimp only;have hrc:=hrow.2;have hcap:=hrc.1;have hcsz:=hrc.2.2.1;have C5:=hU hrow.1;clear hrow;have hcs:∀ W:World,W.heap[gc]? =some (.cells cur2 145 (0,0))→SlBx W (.slice (some ⟨gc,0,none⟩) bs.length cap) bs:=fun W h=> KR.Own.sl qV (Row.own qV (cap:=cap) (cur:=cur2) ⟨h,hrc⟩ (Nat.zero_le gc))
 repeat' (first
  |(refine aP (t:=37) (v:=(.slice (some ⟨gc,0,none⟩) bs.length cap)) (off:=11) (new:=aJ {y0 with bx:=(.slice (some ⟨gc,0,none⟩) bs.length cap)} k) rfl rfl rfl rfl qEg K5.out (hcs _ C5.out).jF (hcs _ C5.out).jW (show 11 + 1≤17 by decide) rfl ?_;intro W6 hp
    have L6:Hid (aH W6 {y0 with bx:=(.slice (some ⟨gc,0,none⟩) bs.length cap)} bs k):=hU ((L5.out.qQd (hcs _ C5.out)).put K5.out qXa hp);have E6:=pK hp E5;have K6:Hid (W6.heap[b]? =some (.cells (aJ {y0 with bx:=(.slice (some ⟨gc,0,none⟩) bs.length cap)} k) 41 (0,0))):=pA hp;have R6:=pO hp R5;have B6:=pT hp K5 B5;have C6:=pT hp K5 C5;have BO6:=hU (BO5.out.put K5.out hp (by decide));clear hp;clear K5 R5 B5 C5 E5 L5 BO5;have kB5:W6.cell? ⟨b,11,none⟩=some (.slice (some ⟨gc,0,none⟩) bs.length cap):=aC K6.out 11)
  |(refine aE (t:=145) (v:=.agg (aX yb)) rfl rfl rfl (aD lB B6.out rfl) ?_)
  |(refine aK (t:=145) (v:=.agg (aX yb)) (off:=j * 2) (new:=(aQ cur2 (j * 2) (aX yb))) rfl rfl rfl rfl lB.size C6.out rfl (by first|omega|(simp only [Value.cells,qV];omega)|(rw [show (Value.agg (aX yb)).cells.size=2 from rfl];omega)) (qEi yb) rfl ?_;intro W7 hp
    have E7:=pE hp E6;have L7:Hid (aH W7 {y0 with bx:=(.slice (some ⟨gc,0,none⟩) bs.length cap)} (bs.set j yb) {k with box:=k.box.set j yb.b}):=hU (L6.out.putRow (qAj C6.out hrc (by omega) hp) BO6.out C6.out hp);have C7:=pA hp;have K7:=pT hp C6 K6;have R7:=pT hp C6 R6;have B7:=pO hp B6;have BO7:=hU (BO6.out.put C6.out hp (by decide));clear hp;clear K6 R6 B6 C6 E6 L6 BO6)
  |(refine aE (t:=41) (v:=.agg (aJ {y0 with bx:=(.slice (some ⟨gc,0,none⟩) bs.length cap)} {k with box:=k.box.set j yb.b})) rfl rfl rfl (aD cR K7.out rfl) ?_)
  |(refine sN 41 (.agg (aJ {y0 with bx:=(.slice (some ⟨gc,0,none⟩) bs.length cap)} {k with box:=k.box.set j yb.b})) 0 (aJ {y0 with bx:=(.slice (some ⟨gc,0,none⟩) bs.length cap)} {k with box:=k.box.set j yb.b}) cR.size R7.out (nS L7.out) fun W8 hp=> ?_
    have E8:=pE hp E7;have L8:=pL hp R7 L7;have R8:=pA hp;have K8:=pO hp K7;have B8:=pT hp R7 B7;have C8:=pT hp R7 C7;have BO8:=hU (BO7.out.put R7.out hp (by decide));clear hp;clear K7 R7 B7 C7 E7 L7 BO7)
  |go_values|go_skip|go_guarded|refine wg ?_|go_step|go_upon)
 clear BO8;(try simp only [Exit.inBlock,Exit.then]);refine bodyPost_ret (cJ results104 cR rfl R8.out rfl) rfl ?_
 rw [← HYB.out];exact ⟨_,rfl,⟨_,_,rfl,L8.out⟩,Kept.low E8.out (by omega)⟩
theorem qRd (v:Value) (k:aI) (n:Int) (body:ByteArray) (at_:Int) (w:World) (hk:pV w v k) (hbl:k.box.length≤1000000) (hil:k.ins_.length≤1000000) (hbd:∀ q ∈ k.box,q.l.length≤1000000∧ -4611686018427387904≤q.lost∧q.lost≤4611686018427387904):
 Calls prog 104 #[v,.int .i64 n,.string body,.int .u64 at_] w (oX (dI k n body at_) w):=by
 by_cases hn:n<0
 · exact qNo v k n body at_ w hk hbl hil hbd hn
 have hj:n=(n.toNat:Int):=by omega
 by_cases h1:k.ins_.length≤n.toNat
 · exact qNp v k n body at_ w hk hbl hil hbd _ hj h1
 by_cases h2:k.box.length≤n.toNat
 · exact qNq v k n body at_ w hk hbl hil hbd _ hj h1 h2
 · exact qNr v k n body at_ w hk hbl hil hbd _ hj h1 h2
