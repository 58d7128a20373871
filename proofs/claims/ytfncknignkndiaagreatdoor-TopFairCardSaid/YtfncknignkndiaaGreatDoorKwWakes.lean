/- work.wakes: who is due wakes, and who needn't wait any more. Conditions: the rows are right, and small. -/
import Derived.Test.YtfncknignkndiaaGreatDoorGTK
import Derived.Test.YtfncknignkndiaaGreatDoorGGood
set_option linter.unusedVariables false
set_option maxRecDepth 100000
set_option maxHeartbeats 8000000
set_option linter.unusedSimpArgs false
namespace Go.Proofs.YtfncknignkndiaaGreatDoor
open Tryz
open Go.RowKit KR RegT3
namespace Kn
def qWi (b:Nat) (w:World) (k1:aI) (dv:Value) (D:List Int) (iv:Value) (W:World):Prop:=∃ i:Nat,i≤D.length∧iv=.int .i64 i∧cH W b ((D.take i).foldl iY k1)∧SlI W dv D∧KR.Kept b w W
def qWj (b:Nat) (w:World) (k1:aI) (pv:Value) (l:List Proc) (iv:Value) (W:World):Prop:=∃ i:Nat,i≤l.length∧iv=.int .i64 i∧cH W b ((l.take i).foldl iZ k1)∧SlP W pv l∧KR.Kept b w W
theorem qAp {α β:Type} (f:α→β→α) (l:List β) (i:Nat) (x:β) (h:l[i]? =some x) (a:α):(l.take (i + 1)).foldl f a=f ((l.take i).foldl f a) x:=by
 rw [(cD h).1,List.foldl_append];rfl
structure Wk1 (k kk:aI) (pid:Int) (p:Proc):Prop where
 fit:Fit kk
 mem:p ∈ kk.p
 hpid:p.pid=pid
 st:p.st=3
 find:find kk.p pid=some p
 wake:iY kk pid={answer kk p p.want 0 0 with t:=iE kk.t pid}
theorem wk1 {k:aI} (hbd:Bd k) (hi:Inv [] k) {i:Nat} {pid:Int} (hx:(due k.s k.now)[i]? =some pid):∃ p,Wk1 k (((due k.s k.now).take i).foldl iY {k with s:=rest k.s k.now}) pid p:=by
 have h0:=hi.due k.now
 have hd:due k.s k.now=(due k.s k.now).take i ++ pid::(due k.s k.now).drop (i + 1):=by
  conv=> lhs;rw [← List.take_append_drop i (due k.s k.now),(cD hx).2]
 have hlt:=(List.getElem?_eq_some_iff.1 hx).1
 have hlen:(due k.s k.now).length≤6:=by
  have:=hi.al.len
  rw [List.append_nil,← tY k.s k.now,List.length_append] at this;have:=hi.n6
  omega
 rw [hd] at h0;have h1:=Inv.cU _ h0;obtain ⟨_,p,hp,hpid,h3⟩:=h1.inv.iY;have hf:=gQ h1.inv.tab.so hp hpid;have ht:Told ((due k.s k.now).take i).length k (((due k.s k.now).take i).foldl iY {k with s:=rest k.s k.now}):=h1.told.same rfl rfl rfl rfl rfl rfl rfl rfl rfl rfl
 have hw:∀ kk:aI,find kk.p pid=some p→iY kk pid={answer kk p p.want 0 0 with t:=iE kk.t pid}:=fun kk hf=> by
  rw [iY,hf];dsimp only;rw [if_pos h3]
 exact ⟨p,hbd.fit h1.inv ht (by rw [List.length_take];omega),hp,hpid,h3,hf,hw _ hf⟩
structure Wk2 (kk:aI) (q:Proc):Prop where
 fit:Fit kk
 n:kk.p.length≤6
 call:nD q.want
 there:q.st=2→∃ r,find kk.p q.pid=some r
theorem wk2 {k:aI} (hbd:Bd k) (hi:Inv [] k) {i:Nat} {q:Proc} (hx:(cU k).p[i]? =some q):Wk2 (((cU k).p.take i).foldl iZ (cU k)) q:=by
 have h0:=hi.due k.now;rw [← List.append_nil (due k.s k.now)] at h0;have h1:=Inv.cU _ h0
 have hlen:(due k.s k.now).length≤6:=by
  have:=hi.al.len
  rw [List.append_nil,← tY k.s k.now,List.length_append] at this;have:=hi.n6
  omega
 have i1:Inv [] (cU k):=h1.inv;have t1:Told (due k.s k.now).length k (cU k):=h1.told.same rfl rfl rfl rfl rfl rfl rfl rfl rfl rfl
 have hd:(cU k).p=(cU k).p.take i ++ q::(cU k).p.drop (i + 1):=by
  conv=> lhs;rw [← List.take_append_drop i (cU k).p,(cD hx).2]
 have h2:=Inv.qIx ((cU k).p.take i) (post:=q::(cU k).p.drop (i + 1)) (k:=cU k) i1 (by rw [← hd];exact i1.tab.so) (by rw [← hd];exact i1.tab.wd) (by rw [← hd];exact fun y hy h2=> ⟨y,hy,rfl,h2⟩);have hn:=i1.n6;refine ⟨hbd.fit h2.inv (t1.trans h2.told) (by rw [List.length_take];omega),h2.inv.n6,qMi (i1.tab.wd q (List.mem_of_getElem? hx)),fun h=> ?_⟩;obtain ⟨r,hr,hr1,_⟩:=h2.post q List.mem_cons_self h;exact ⟨r,gQ h2.inv.tab.so hr hr1⟩
theorem qWh (b:Nat) (k:aI) (w:World) (hk:cH w b k) (hbd:Bd k) (hi:Inv [] k):
 Calls prog 39 #[.pointer (some ⟨b,0,none⟩)] w (oY b (jA k) w):=by
 have hsl:k.s.length≤6:=by have:=hi.al.len;rw [List.append_nil,List.length_map] at this;have:=hi.n6;omega
 have HBD:=hU hbd;have HI:=hU hi;clear hbd hi;obtain ⟨y,bs,hk0,hl⟩:=hk;have hbl:=hlt hk0;have K0:Hid (w.heap[b]? =some (.cells (aJ y k) 104 (0,0))):=hU hk0;have E0:Hid (KR.Kept b w w):=hU (KR.Kept.refl b w);have L0:=hU hl;have hz0:=Nat.le_refl w.heap.size;have hzK:=hlt hk0;go_in;refine sg ?_;intros;refine wp_region_noPanic ?_;refine go0 (S:=fun W=> (W.cell? ⟨b,3,none⟩=some y.s)∧(W.cell? ⟨b,7,none⟩=some (.int .u64 k.now))) [] (⟨aC K0.out 3,aC K0.out 7⟩) fun hS=> ?_;obtain ⟨W1,hWd⟩:=exW w.drew;obtain ⟨K1,E1,L1⟩:=n3 (dW hWd) K0 E0 L0;rw [hWd] at hS ⊢;clear hWd;clear K0 E0 L0;refine ts [.p 0,.p 1,.p 2,.p 3,.l 4,.p 5,.p 6,.p 7,.p 8,.l 9] ?_;refine ro 10 fun K hK=> ?_;refine want rfl ?_;go_simp;refine (Due y.s k.s k.now _ L1.out.s (by omega)).mono ?_;rintro er W2 ⟨v1,v2,rfl,hd1,hd2,hb⟩;obtain ⟨K2,E2,L2⟩:=n3 hb K1 E1 L1;clear K1 E1 L1;clear hb;have DU2:=hU (KR.Own.sl gS hd1);have RE2:=hU hd2;dsimp only;try clear hS
 refine nx hK (⟨aC K2.out 3,aC K2.out 7⟩) fun hS=> ?_;clear hK K;(try simp only [aF])
 refine ts [.p 11,.p 12,.p 13,.p 14,.p 15] ?_;refine aZ (by kernel_rfl) (NoPanic.normal ?_) _;try clear hS
 clear hd1 hd2;obtain ⟨da,dc,hda,hdc,hdm⟩:=DU2.out.shape;subst hda
 repeat' (first
  |(refine kSs 30 v2 3 {y with s:=v2} {k with s:=rest k.s k.now} sG K2 E2 RE2 (L2.out.setS RE2.out) fun W3 hp L3 E3 K3=> ?_
    have DU3:=hU (DU2.out.put K2.out hp (by decide));have RE3:=hU (RE2.out.put K2.out hp (by decide));clear hp;clear K2 E2 L2 DU2 RE2)
  |go_values|go_skip|go_guarded|refine wg ?_|go_step|go_upon)
 clear RE3;go_loopw [31] (fun iv wr=> qWi b w {k with s:=rest k.s k.now} (.slice da (due k.s k.now).length dc) (due k.s k.now) iv wr) (fun iv _=> (due k.s k.now).length - (intOf iv).toNat)
 case atStart=> exact ⟨0,Nat.zero_le _,rfl,⟨_,_,K3.out,L3.out⟩,DU3.out,E3.out⟩
 case round=>
  clear K3 E3 L3 DU3;obtain ⟨i,hi,rfl,⟨y2,bs2,hk2,hl2⟩,hdu,hke2⟩:=hrel;obtain ⟨kk,hkk⟩:∃ kk,((due k.s k.now).take i).foldl iY {k with s:=rest k.s k.now}=kk:=⟨_,rfl⟩
  rw [hkk] at hk2 hl2;have K4:=hU hk2;have E4:=hU hke2;have L4:=hU hl2;have hzw2:=hke2.size;have hbw2:=hlt hk2;clear hk2 hl2 hke2;by_cases hil:i<(due k.s k.now).length
  · skip
    obtain ⟨pid,hx⟩:∃ pid,(due k.s k.now)[i]? =some pid:=⟨_,List.getElem?_eq_getElem hil⟩
    obtain ⟨p,hA⟩:=wk1 HBD.out HI.out hx;have htk:=qAp iY (due k.s k.now) i pid hx {k with s:=rest k.s k.now};rw [hkk] at hA htk;rw [hA.wake] at htk;have HTK:=hU htk;have HA:=hU hA;obtain ⟨gb,off,hda,hgb,aC⟩:=hdu.elem.2.2.2 i pid hx;subst hda
    have c0:wr.cell? ⟨gb,off + i,none⟩=some (.int .i64 pid):=by
     have:=aC wr (Below.refl _ _) 0 (.int .i64 pid) rfl
     simpa using this
    have DU4:=hU hdu;clear aC htk hA hx hdu hkk;have kP:wr.cell? ⟨b,0,none⟩=some y2.p:=aC K4.out 0;refine sg ?_;intros;refine (oK y2.p kk.p pid _ L4.out.p).mono ?_;rw [HA.out.find];dsimp only [Option.getD_some,Option.isSome_some];rintro er W5 ⟨rfl,hb⟩;obtain ⟨K5,E5,L5⟩:=n3 hb K4 E4 L4;have DU5:=hU (DU4.out.below hb);clear K4 E4 L4 DU4;clear hb kP c0;dsimp only;obtain ⟨abP,hab,hab1P⟩:=nb0 E5;have habKP:=nlt K5 hab;have hoffP:=L5.out.p.dJ (Nat.le_of_eq hab);obtain ⟨W6,hWn,hba,P6⟩:=nb1 (.cells zPr 121) hab;obtain ⟨K6,E6,L6⟩:=n3 hba K5 E5 L5;have DU6:=hU (DU5.out.below hba);clear K5 E5 L5 DU5;clear hba
    repeat' (first
     |(rw [hWn,hab];clear hWn hab)
     |(refine sN 121 (.agg p.cells) 0 p.cells aL.size P6.out (dK p) fun W7 hp=> ?_
       have E7:=pE hp E6;have L7:Hid (aH W7 y2 bs2 kk):=hU (L6.out.dG (L6.out.p.dY hoffP hp) P6.out hp);have P7:=pA hp;have K7:=pT hp P6 K6;have DU7:=hU (DU6.out.put P6.out hp (by decide));clear hp;clear K6 P6 E6 L6 DU6;have kS:W7.cell? ⟨abP,2,none⟩=some (.int .i64 3):=(aC P7.out 2).trans (congrArg (fun z=> some (Value.int .i64 z)) HA.out.st))
     |(refine aE (t:=121) (v:=.agg p.cells) rfl rfl rfl (aD aL P7.out rfl) ?_)
     |(refine aE (t:=119) (v:=.agg p.want.cells) rfl rfl rfl (cB dD P7.out rfl rfl) ?_)
     |go_values|go_skip|go_guarded|refine wg ?_|go_step|go_upon)
    try clear hWn hab
    try clear kS
    refine (fL b kk p p.want 0 0 _ ⟨_,_,K7.out,L7.out⟩ (by decide) (by decide) (by have:=HA.out.fit.n;omega) HA.out.fit.tr).mono ?_;rintro er W8 ⟨hret,⟨y8,bs8,hkk,hll⟩,hke⟩;have P8:=mB hke P7;have DU8:=hU (DU7.out.kept K7.out hke (by decide));have K8:=hU hkk;have E8:=mE hke E7;have L8:=hU hll;clear hkk hll hke;clear K7 P7 E7 L7 DU7;obtain ⟨er2,rfl⟩:=hret;dsimp only;have kT1:W8.cell? ⟨b,1,none⟩=some y8.t:=aC K8.out 1;have kT2:W8.cell? ⟨b,2,none⟩=some (.int .i64 kk.t.left):=aC K8.out 2;refine sg ?_;intros;refine (TAdd _ kk.t pid _ ⟨y8.t,rfl,L8.out.t⟩ (by have:=HA.out.fit.t;omega)).mono ?_;rintro er W9 ⟨v7,rfl,⟨u7,rfl,ht7⟩,hb⟩;obtain ⟨K9,P9,E9,L9⟩:=n4 hb K8 P8 E8 L8;have DU9:=hU (DU8.out.below hb);clear K8 P8 E8 L8 DU8;clear hb kT1 kT2;have ST9:=hU ht7;clear ht7;dsimp only
    repeat' (first
     |(refine sN 29 (.agg #[u7,.int .i64 (iE kk.t pid).left]) 1 (aJ {y8 with t:=u7} {answer kk p p.want 0 0 with t:=iE kk.t pid}) cM.size K9.out (uK ST9.out) fun W10 hp=> ?_
       have L10:Hid (aH W10 {y8 with t:=u7} bs8 {answer kk p p.want 0 0 with t:=iE kk.t pid}):=hU ((L9.out.setT ST9.out).put K9.out cI hp);have E10:=pK hp E9;have K10:Hid (W10.heap[b]? =some (.cells (aJ {y8 with t:=u7} {answer kk p p.want 0 0 with t:=iE kk.t pid}) 104 (0,0))):=pA hp;have P10:=pT hp K9 P9;have DU10:=hU (DU9.out.put K9.out hp (by decide));have ST10:=hU (ST9.out.put K9.out hp (by decide));clear hp;clear K9 P9 E9 L9 DU9 ST9)
     |go_values|go_skip|go_guarded|refine wg ?_|go_step|go_upon)
    clear ST10;refine sg ?_;intros;exact ⟨⟨i + 1,by omega,by go_num,⟨{y8 with t:=u7},bs8,by rw [HTK.out];exact K10.out,by rw [HTK.out];exact L10.out⟩,DU10.out,E10.out⟩,by simp [intOf];omega⟩
  · have hie:i=(due k.s k.now).length:=by omega
    have hk1:kk=cU k:=by rw [← hkk,hie,List.take_length];rfl
    clear hkk hie;subst hk1;clear hdu;obtain ⟨pa,pc,hpa,hpc,_⟩:=L4.out.p.shape;have hsv:SlP wr (.slice pa (cU k).p.length pc) (cU k).p:=by rw [← hpa];exact L4.out.p
    have kP:wr.cell? ⟨b,0,none⟩=some (.slice pa (cU k).p.length pc):=(aC K4.out 0).trans (congrArg some hpa);clear hpa;refine sg ?_;intros;clear kP;obtain ⟨wo,rfl⟩:∃ wo:World,wo=wr:=⟨wr,rfl⟩
    go_loopw [74] (fun iv wr=> qWj b w (cU k) (.slice pa (cU k).p.length pc) (cU k).p iv wr) (fun iv _=> (cU k).p.length - (intOf iv).toNat)
    case atStart=> exact ⟨0,Nat.zero_le _,rfl,⟨_,_,K4.out,L4.out⟩,hsv,E4.out⟩
    case round=>
     clear K4 E4 L4;clear hsv;obtain ⟨j,hj,rfl,⟨y3,bs3,hk3,hl3⟩,hsv,hke3⟩:=hrel;obtain ⟨kj,hkj⟩:∃ kj,((cU k).p.take j).foldl iZ (cU k)=kj:=⟨_,rfl⟩
     rw [hkj] at hk3 hl3;have K5:=hU hk3;have E5:=hU hke3;have L5:=hU hl3;have hzw3:=hke3.size;have hbw3:=hlt hk3;clear hk3 hl3 hke3;by_cases hjl:j<(cU k).p.length
     · skip
       obtain ⟨q,hx⟩:∃ q,(cU k).p[j]? =some q:=⟨_,List.getElem?_eq_getElem hjl⟩
       have hA:=wk2 HBD.out HI.out hx;have htk:=qAp iZ (cU k).p j q hx (cU k);rw [hkj] at hA htk;have HA:=hU hA;obtain ⟨gb,off,hpa,hgb,aC⟩:=hsv.elem.2.2.2 j q hx;subst hpa;have HCELL:=hU (aC wr (Below.refl _ _));have SV5:=hU hsv;clear aC hA hx hsv hkj;by_cases h2:q.st=2
       rotate_left
       · have g2:(q.st !=2)=true:=by simp [h2]
         have hw:iZ kj q=kj:=by rw [iZ,if_neg h2]
         rw [hw] at htk;have HTK:=hU htk;clear htk hw h2;obtain ⟨abQ,hab,hab1Q⟩:=nb0 E5;have habKQ:=nlt K5 hab;have hoffQ:=L5.out.p.dJ (Nat.le_of_eq hab);have hoffS:=SV5.out.dJ (Nat.le_of_eq hab);obtain ⟨W6,hWn,hba,Q6⟩:=nb1 (.cells zPr 121) hab;obtain ⟨K6,E6,L6⟩:=n3 hba K5 E5 L5;have SV6:=hU (SV5.out.below hba);clear K5 E5 L5 SV5;clear hba
         repeat' (first
          |(rw [hWn,hab];clear hWn hab)
          |(refine aE (t:=121) (v:=.agg q.cells) rfl rfl rfl (cA aL rfl HCELL.out) ?_)
          |(refine sN 121 (.agg q.cells) 0 q.cells aL.size Q6.out (dK q) fun W7 hp=> ?_
            have E7:=pE hp E6;have L7:Hid (aH W7 y3 bs3 kj):=hU (L6.out.dG (L6.out.p.dY hoffQ hp) Q6.out hp);have Q7:=pA hp;have K7:=pT hp Q6 K6;have SV7:=hU (SV6.out.dY hoffS hp);clear hp;clear K6 Q6 E6 L6 SV6;have kQ2:W7.cell? ⟨abQ,2,none⟩=some (.int .i64 q.st):=aC Q7.out 2;have kQ0:W7.cell? ⟨abQ,0,none⟩=some (.int .i64 q.pid):=aC Q7.out 0)
          |(refine aE (t:=119) (v:=.agg q.want.cells) rfl rfl rfl (cB dD Q7.out rfl rfl) ?_)
          |go_values|go_skip|go_guarded|refine wg ?_|go_step|go_upon)
         exact ⟨⟨j + 1,by omega,by go_num,⟨y3,bs3,by rw [HTK.out];exact K7.out,by rw [HTK.out];exact L7.out⟩,SV7.out,E7.out⟩,by simp [intOf];omega⟩
       have g2:(q.st !=2)=false:=by simp [h2]
       obtain ⟨r,hr⟩:=HA.out.there h2;obtain ⟨ht2,hn2,he0,he1⟩:=qY kj r q.want;have HR:=hU hr;have HT2:=hU ht2;have HN2:=hU hn2;have HE0:=hU he0;have HE1:=hU he1;have HTK0:=hU htk;have HH2:=hU h2;clear hr ht2 hn2 he0 he1 htk h2;obtain ⟨abQ,hab,hab1Q⟩:=nb0 E5;have habKQ:=nlt K5 hab;have hoffQ:=L5.out.p.dJ (Nat.le_of_eq hab);have hoffS:=SV5.out.dJ (Nat.le_of_eq hab);obtain ⟨W6,hWn,hba,Q6⟩:=nb1 (.cells zPr 121) hab;obtain ⟨K6,E6,L6⟩:=n3 hba K5 E5 L5;have SV6:=hU (SV5.out.below hba);clear K5 E5 L5 SV5;clear hba
       repeat' (first
        |(rw [hWn,hab];clear hWn hab)
        |(refine aE (t:=121) (v:=.agg q.cells) rfl rfl rfl (cA aL rfl HCELL.out) ?_)
        |(refine sN 121 (.agg q.cells) 0 q.cells aL.size Q6.out (dK q) fun W7 hp=> ?_
          have E7:=pE hp E6;have L7:Hid (aH W7 y3 bs3 kj):=hU (L6.out.dG (L6.out.p.dY hoffQ hp) Q6.out hp);have Q7:=pA hp;have K7:=pT hp Q6 K6;have SV7:=hU (SV6.out.dY hoffS hp);clear hp;clear K6 Q6 E6 L6 SV6;have kQ2:W7.cell? ⟨abQ,2,none⟩=some (.int .i64 q.st):=aC Q7.out 2;have kQ0:W7.cell? ⟨abQ,0,none⟩=some (.int .i64 q.pid):=aC Q7.out 0)
        |(refine aE (t:=119) (v:=.agg q.want.cells) rfl rfl rfl (cB dD Q7.out rfl rfl) ?_)
        |go_values|go_skip|go_guarded|refine wg ?_|go_step|go_upon)
       try clear hWn hab
       try clear kQ2 kQ0
       refine (qHi b kj q.pid r q.want _ ⟨_,_,K7.out,L7.out⟩ HA.out.fit HA.out.call HR.out (Nat.le_trans HN2.out (by have:=HA.out.n;omega)) (by rw [HT2.out];exact HA.out.fit.tr) HE0.out HE1.out).mono ?_;rintro er W8 ⟨hret,⟨y8,bs8,hkk,hll⟩,hke⟩;have Q8:=mB hke Q7;have SV8:=hU (SV7.out.kept K7.out hke (by decide));have K8:=hU hkk;have E8:=mE hke E7;have L8:=hU hll;clear hkk hll hke;clear K7 Q7 E7 L7 SV7;subst hret;dsimp only;cases ht:eM kj q.pid q.want
       · have HTK:Hid (((cU k).p.take (j + 1)).foldl iZ (cU k)=(tries kj q.pid q.want)):=hU (HTK0.out.trans (by rw [iZ,if_pos HH2.out,ht];rfl));refine sg ?_;intros;exact ⟨⟨j + 1,by omega,by go_num,⟨y8,bs8,by rw [HTK.out];exact K8.out,by rw [HTK.out];exact L8.out⟩,SV8.out,E8.out⟩,by simp [intOf];omega⟩
       have HTK:Hid (((cU k).p.take (j + 1)).foldl iZ (cU k)={(tries kj q.pid q.want) with t:=iE (tries kj q.pid q.want).t q.pid}):=hU (HTK0.out.trans (by rw [iZ,if_pos HH2.out,ht];rfl));have htl:(tries kj q.pid q.want).t.l.length≤1000000:=by rw [qTn];exact HA.out.fit.t
       clear ht;refine sg ?_;intros;refine wp_region_noPanic ?_;refine go0 (S:=fun W=> (W.cell? ⟨b,1,none⟩=some y8.t)∧(W.cell? ⟨b,2,none⟩=some (.int .i64 (tries kj q.pid q.want).t.left))∧(W.cell? ⟨abQ,0,none⟩=some (.int .i64 q.pid))) [12] (⟨aC K8.out 1,aC K8.out 2,aC Q8.out 0⟩) fun hS=> ?_;obtain ⟨W9,hWd⟩:=exW W8.drew;obtain ⟨K9,Q9,E9,L9⟩:=n4 (dW hWd) K8 Q8 E8 L8;have SV9:=dS hWd SV8;rw [hWd] at hS ⊢;clear hWd;clear K8 Q8 E8 L8 SV8;refine ts [.p 0,.p 1,.p 2,.p 3,.p 4,.l 5,.p 6,.l 7] ?_;refine ro 8 fun K hK=> ?_;refine want rfl ?_;go_simp;refine (TAdd _ (tries kj q.pid q.want).t q.pid _ ⟨y8.t,rfl,L9.out.t⟩ (by omega)).mono ?_;rintro er W10 ⟨v7,rfl,⟨u7,rfl,ht7⟩,hb⟩;obtain ⟨K10,Q10,E10,L10⟩:=n4 hb K9 Q9 E9 L9;have SV10:=hU (SV9.out.below hb);clear K9 Q9 E9 L9 SV9;clear hb;have ST10:=hU ht7;dsimp only;try clear hS
       refine nx hK (⟨aC K10.out 1,aC K10.out 2,aC Q10.out 0⟩) fun hS=> ?_;clear hK K;(try simp only [aF])
       refine ts [.p 9,.p 10,.p 11] ?_;refine ro 12 fun K hK=> ?_;refine want rfl ?_;refine cL (v:=.agg #[u7,.int .i64 (iE (tries kj q.pid q.want).t q.pid).left]) (off:=1) (new:=aJ {y8 with t:=u7} {(tries kj q.pid q.want) with t:=iE (tries kj q.pid q.want).t q.pid}) rfl rfl rfl cM.size K10.out rfl (show 1 + 2≤17 by decide) (uK ST10.out) rfl ?_;intro W11 hp;have L11:Hid (aH W11 {y8 with t:=u7} bs8 {(tries kj q.pid q.want) with t:=iE (tries kj q.pid q.want).t q.pid}):=hU ((L10.out.setT ST10.out).put K10.out cI hp);have E11:=pK hp E10;have K11:Hid (W11.heap[b]? =some (.cells (aJ {y8 with t:=u7} {(tries kj q.pid q.want) with t:=iE (tries kj q.pid q.want).t q.pid}) 104 (0,0))):=pA hp;have Q11:=pT hp K10 Q10;have SV11:=hU (SV10.out.put K10.out hp (by decide));have ST11:=hU (ST10.out.put K10.out hp (by decide));clear hp;clear K10 Q10 E10 L10 SV10 ST10;refine nt hK ?_;clear hK K;try clear hS
       (try simp only [aF])
       refine aZ (by kernel_rfl) (NoPanic.normal ?_) _;try clear hS
       clear ST11;refine sg ?_;intros;exact ⟨⟨j + 1,by omega,by go_num,⟨{y8 with t:=u7},bs8,by rw [HTK.out];exact K11.out,by rw [HTK.out];exact L11.out⟩,SV11.out,E11.out⟩,by simp [intOf];omega⟩
     · have hje:j=(cU k).p.length:=by omega
       have hk4:kj=jA k:=by rw [← hkj,hje,List.take_length];rfl
       clear hkj hje;subst hk4;clear hsv;refine sg ?_;intros;go_end0
       exact ⟨⟨_,rfl⟩,⟨_,_,K5.out,L5.out⟩,E5.out⟩
