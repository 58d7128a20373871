/- In a cycle nobody's guest but the owner's goes on. Conditions: as told. -/
import Derived.Test.YtbeakngieodlhaaGreatDoorHyShown
set_option linter.unusedVariables false
set_option maxRecDepth 100000
set_option maxHeartbeats 8000000
set_option linter.unusedSimpArgs false
namespace Go.Proofs.YtbeakngieodlhaaGreatDoor
open Go.RowKit KR Kn RegT3
namespace Hy
theorem scells_at {y:Lay} {s:Seat} {j:Nat} {u:Value} (h:(kcells y s.k)[j]? =some u):(scells y s)[j]? =some u:=by
 have hj:j<17:=(Array.getElem?_eq_some_iff.1 h).1
 unfold kcells at h
 unfold scells
 rcases j with _|_|_|_|_|_|_|_|_|_|_|_|_|_|_|_|_|j <;> first|exact h|(exfalso;omega)
def Un (a b:Seat):Prop:=b.k.now=a.k.now∧b.k.trace=a.k.trace∧b.k.cons=a.k.cons
theorem Un.refl (a:Seat):Un a a:=⟨rfl,rfl,rfl⟩
theorem Un.trans {a b c:Seat} (h:Un a b) (g:Un b c):Un a c:=⟨g.1.trans h.1,g.2.1.trans h.2.1,g.2.2.trans h.2.2⟩
def UnAll (p:Nat→Prop) (m m':Mach):Prop:=∀ (i:Nat) (b:Seat),m'.seats[i]? =some b→∃ a,m.seats[i]? =some a∧(p i→Un a b)
theorem UnAll.trans {p:Nat→Prop} {m m1 m2:Mach} (h:UnAll p m m1) (g:UnAll p m1 m2):UnAll p m m2:=fun i c hc=> by
 obtain ⟨b,hb,g1⟩:=g i c hc
 obtain ⟨a,ha,h1⟩:=h i b hb
 exact ⟨a,ha,fun hp=> (h1 hp).trans (g1 hp)⟩
theorem un_set {p:Nat→Prop} {m m':Mach} {j:Nat} {t t':Seat} (ht:m.seats[j]? =some t) (hs:m'.seats=m.seats.set j t') (hu:p j→Un t t'):UnAll p m m':=fun i b hb=> by
 rw [hs] at hb
 by_cases hij:j=i
 · subst hij
   rw [List.getElem?_set_self (List.getElem?_eq_some_iff.1 ht).1] at hb
   obtain rfl:=Option.some.inj hb
   exact ⟨t,ht,hu⟩
 · rw [List.getElem?_set_ne hij] at hb
   exact ⟨b,hb,fun _=> Un.refl b⟩
theorem un_same {p:Nat→Prop} {m m':Mach} (hs:m'.seats=m.seats):UnAll p m m':=fun i b hb=> ⟨b,by rw [← hs];exact hb,fun _=> Un.refl b⟩
theorem arrive_un (t:Seat) (j:Int) (body:ByteArray):Un t (sarrive t j body):=by
 obtain ⟨_,e2,e3⟩:=arrive_rows t.k j body t.k.now
 exact ⟨arrive_now _ _ _ _,e2,e3⟩
theorem window_un (t:Seat):Un t (swindow t):=by
 unfold swindow
 split <;> exact ⟨rfl,rfl,rfl⟩
theorem msend_un (p:Nat→Prop) (who:Nat) (m:Mach) (o:Out):UnAll p m (msend who m o):=by
 unfold msend
 split
 · exact un_same rfl
 · split
   · next t a ht ha=> exact un_set ht rfl fun _=> arrive_un t _ _
   · exact un_same rfl
theorem sends_un (p:Nat→Prop) (who:Nat):∀ (l:List Out) (m:Mach),UnAll p m (l.foldl (msend who) m)
 |[],m=> un_same rfl
 |o::l,m=> (msend_un p who m o).trans (sends_un p who l (msend who m o))
theorem mwin_un (p:Nat→Prop) (m:Mach):UnAll p m (mwin m):=by
 unfold mwin
 split
 · split
   · next t ht=> exact un_set ht rfl fun _=> window_un t
   · exact un_same rfl
 · exact un_same rfl
theorem mwants_seats (who:Nat) (m:Mach):(mwants who m).seats=m.seats:=by
 unfold mwants
 split
 · split <;> rfl
 · rfl
theorem mcycle_un {who:Nat} {m:Mach} {s:Seat} (hs:m.seats[who]? =some s):UnAll (fun i=> i ≠ who) m (mcycle who m):=by
 rw [mcycle_some hs]
 have h1:UnAll (fun i=> i ≠ who) m (lives who s m):=un_set hs rfl fun h=> absurd rfl h
 exact (h1.trans (sends_un _ who _ _)).trans (un_same (mwants_seats _ _))
theorem mcycle_own {n who:Nat} {m:Mach} {s:Seat} (hs:m.seats[who]? =some s) (hg:SGood n s) (hn:n≤1000000) (h1:s.st=1) {b:Seat} (hb:(mcycle who m).seats[who]? =some b):b.k.now=s.k.now + 1:=by
 rw [mcycle_some hs,mwants_seats] at hb
 obtain ⟨a,ha,hu⟩:=sends_un (fun _=> True) who _ (lives who s m) who b hb
 have ha:(m.seats.set who (scycle (partOf (m.p.ps.getD who [])) s))[who]? =some a:=ha
 rw [List.getElem?_set_self (List.getElem?_eq_some_iff.1 hs).1] at ha
 obtain rfl:=Option.some.inj ha
 rw [(hu trivial).1,scycle_now hg hn h1]
theorem mstep_un {n:Nat} {m:Mach} (hg:MGood n m) (hn:n≤1000000) (i:Nat) (b:Seat) (hb:(mstep m).seats[i]? =some b):∃ a,m.seats[i]? =some a∧((i:Int) ≠ (mstep m).owner→Un a b)∧((i:Int)=(mstep m).owner→b.k.now=a.k.now∨b.k.now=a.k.now + 1):=by
 have hm:(mstep m).seats=(mown m).seats∧(mstep m).owner=(mown m).owner:=by
  unfold mstep mtick
  split <;> exact ⟨rfl,rfl⟩
 rw [hm.1] at hb
 rw [hm.2]
 have whole:∀ {m':Mach} {o:Int},m'.seats[i]? =some b→m'.seats=(mwin m).seats→∃ a,m.seats[i]? =some a∧((i:Int) ≠ o→Un a b)∧((i:Int)=o→b.k.now=a.k.now∨b.k.now=a.k.now + 1):=fun {m' o} h he=> by
  rw [he] at h
  obtain ⟨a,ha,hu⟩:=mwin_un (fun _=> True) m i b h
  exact ⟨a,ha,fun _=> hu trivial,fun _=> .inl (hu trivial).1⟩
 unfold mown at hb ⊢
 by_cases hp:(wAt m.p m.sched m.now).2=2
 · rw [if_pos hp] at hb ⊢
   obtain ⟨w0,_⟩:=wAt_lt hg.ck (s:=m.sched) (t:=m.now) (by omega)
   cases hs:(mwin m).seats[(wAt m.p m.sched m.now).1.toNat]? with
   |none=> rw [hs] at hb;exact whole hb rfl
   |some s=>
    rw [hs] at hb
    dsimp only at hb ⊢
    by_cases h1:s.st=1
    · rw [if_pos h1] at hb
      have hb:(mcycle (wAt m.p m.sched m.now).1.toNat (mwin m)).seats[i]? =some b:=hb
      obtain ⟨a2,ha2,hu2⟩:=mcycle_un hs i b hb
      obtain ⟨a,ha,hu⟩:=mwin_un (fun _=> True) m i a2 ha2
      refine ⟨a,ha,fun h=> (hu trivial).trans (hu2 (fun e=> h (by omega))),fun h=> ?_⟩
      obtain rfl:i=(wAt m.p m.sched m.now).1.toNat:=by omega
      rw [hs] at ha2
      obtain rfl:=Option.some.inj ha2
      right
      rw [mcycle_own hs (hg.win.sg s (List.mem_of_getElem? hs)) hn h1 hb,(hu trivial).1]
    · rw [if_neg h1] at hb
      exact whole hb rfl
 · rw [if_neg hp] at hb ⊢
   exact whole hb rfl
def OthR (Wo:World) (n:Nat) (iv:Value) (W:World):Prop:=∃ i:Nat,i≤n∧iv=.int .i64 i∧Hid (Below Wo.heap.size Wo W)
theorem LHyperOthers (vp vw vc im:Value) (P:Pl.Plan) (l:List (List ByteArray)) (n:Int) (w:World) (h:PlanR w vp vw vc P) (hfr:P.fr≤9223372036854775807) (him:ImgAt w im l) (hl:∀ r ∈ l,r.length≤8796093022207) (hT:Tab w):
 Calls Tryz.prog 7 #[.agg (pcells vp vw vc P.fr),im,.int .i64 n] w (Gives (.bool true) w):=by
 obtain ⟨aw,cw,rfl⟩:=h.wins
 obtain ⟨ai,ci,rfl,_⟩:=id him
 obtain ⟨Wn,hW0,hb0,HP⟩:=nb1 (W:=w) (.cells (pcells vp (.slice aw P.ws.length cw) vc P.fr) 53) rfl
 have HB:=hU hb0
 have HT:=hU (fun W (h:Below w.heap.size w W)=> hT.below h)
 have HPL:=hU (fun W (hb:Below w.heap.size w W)=> h.below hb)
 have HIM:=hU (fun W (hb:Below w.heap.size w W)=> him.below hb)
 have HBE:=hU (fun W (hb:Below w.heap.size w W)=> HBegin vp (.slice aw P.ws.length cw) vc (.slice ai l.length ci) P l W (h.below hb) hfr (him.below hb) hl)
 clear hb0 h him hl hT
 go_in
 repeat' (first|(rw [hW0];clear hW0)|go_values|go_skip|go_guarded|refine wg ?_|go_step|go_upon)
 refine (HShown _ (HT.out _ HB.out)).mono ?_
 rintro er Wn ⟨rfl,hb⟩
 replace HP:=nB hb HP
 replace HB:=nW hb HB
 clear hb
 dsimp only
 refine sg ?_;intros
 refine (HFew (.slice ai l.length ci) l _ (HIM.out _ HB.out)).mono ?_
 rintro er Wx ⟨rfl,rfl⟩
 obtain ⟨sm,hsm⟩:∃ sm,fewI l=sm:=⟨_,rfl⟩
 rw [hsm]
 dsimp only
 repeat' (first|(refine wpList_load (t:=53) (v:=.agg (pcells vp (.slice aw P.ws.length cw) vc P.fr)) rfl rfl rfl (run_load_whole aggPlan HP.out rfl) ?_)|go_values|go_skip|go_guarded|refine wg ?_|go_step|go_upon)
 refine (HBE.out _ HB.out).mono ?_
 rintro er Wn hg
 obtain ⟨c,ck,rfl,hcs,hon,hb,hgo⟩:=hg.cells
 clear hg HBE HIM
 replace HP:=nB hb HP
 replace HB:=nW hb HB
 have HCS:=hU hcs
 have HON:=hU hon
 have HGO:=hU hgo
 have hb9:Below Wn.heap.size Wn Wn:=Below.refl _ _
 have HR:=hU hb9
 clear hb hcs hon hgo hb9
 obtain ⟨b5,hab5,hbz5⟩:=nbz HB
 have hb5:=nlt HP hab5
 obtain ⟨Wo,hWo⟩:∃ Wo,Wo=Wn:=⟨_,rfl⟩
 rw [← hWo] at HGO
 replace HR:Hid (Below Wo.heap.size Wo Wn):=hU (by rw [hWo];exact Below.refl _ _)
 clear hWo
 obtain ⟨W5,hW5,hba5,HZ5⟩:=nb1 (W:=Wn) (.cells zSy 61) hab5
 dsimp only
 have hcase:sm=false∨sm=true∧ck ≠ 0∨sm=true∧ck=0∧n<0∨sm=true∧ck=0∧¬ n<0:=by
  cases sm
  · exact .inl rfl
  · by_cases h1:ck=0
    · by_cases h2:n<0
      · exact .inr (.inr (.inl ⟨rfl,h1,h2⟩))
      · exact .inr (.inr (.inr ⟨rfl,h1,h2⟩))
    · exact .inr (.inl ⟨rfl,h1⟩)
 rcases hcase with rfl|⟨rfl,hck⟩|⟨rfl,rfl,hn⟩|⟨rfl,rfl,hn⟩
 case' inr.inl=> have e1:(ck !=0)=true:=by simpa using hck
 case' inr.inr.inl=> have e2:decide (n<0)=true:=by simpa using hn
 case' inr.inr.inr=> have e2:decide (n<0)=false:=by simpa using hn
 all_goals repeat' (first
  |(rw [hW5,hab5];clear hW5)
  |(refine wpList_store (t:=61) (v:=.agg c) (off:=0) (new:=c) rfl rfl rfl rfl aggSys.size HZ5.out HCS.out (show 0 + 11≤11 by decide) HON.out (splice_whole (by rw [show (Value.agg c).cells.size=11 from HCS.out];rfl)) ?_;intro Wn hp
    have hbb:=Below.put hba5 hp (Nat.le_of_eq hab5)
    replace HP:=nB hbb HP
    replace HR:=hU (HR.out.trans (hbb.mono HR.out.size))
    replace HB:=nW hbb HB
    have HQ:=pA hp
    clear hbb hp hba5 HZ5 HON HCS)
  |go_values|go_skip|go_guarded|refine wg ?_|go_step|go_upon)
 rotate_left 1
 · go_ret;exact gives_of rfl HB.out
 · go_ret;exact gives_of rfl HB.out
 · go_ret;exact gives_of rfl HB.out
 clear e2
 obtain ⟨hck,y,rfl,hs,hv⟩:=HGO.out rfl
 obtain ⟨hgd,hwd⟩:=mbegin_good hck (fewI_mem hsm)
 obtain ⟨m0,hm0⟩:∃ m0,m0=mbegin P l:=⟨_,rfl⟩
 have hp0:m0.p=P:=by rw [hm0];rfl
 rw [← hm0] at HQ hs hgd hwd
 have HY:=hU (hs.below HR.out)
 have HV:=hU hv
 obtain ⟨k,hk⟩:∃ k,k=(most 300 n).toNat:=⟨_,rfl⟩
 have hk3:k≤300:=by rw [hk];unfold most;split <;> omega
 have HRU:=hU (fun W hy ht=> HRun y m0 0 k (most 300 n) W hy hgd hwd hk (by omega) ht)
 have HG:=hU (hgd.run hwd (k:=k) (by omega))
 have HM:=hU (show (mrun k m0).p=P by rw [mrun_p];exact hp0)
 have HM0:=hU hm0
 clear hck hs hv hgd hwd HGO hm0 hp0 HR hsm hk
 refine wp_region_noPanic ?_
 refine go0 (S:=fun W=> W.heap[b5]? =some (.cells (ycells y m0) 61 (0,0))) [4] HQ.out fun hS=> ?_
 obtain ⟨Wd,hWd⟩:=exW Wn.drew
 have hbd:=dW hWd
 replace HP:=nB hbd HP
 replace HQ:=nB hbd HQ
 replace HY:=hU (HY.out.below hbd)
 replace HB:=nW hbd HB
 rw [hWd] at hS ⊢
 clear hWd hbd
 refine tv 0 (.agg (ycells y m0)) (fun W hSW=> run_val_load rfl rfl (run_load_whole aggSys hSW rfl)) ?_;(try simp only [acts])
 refine tp 1 ?_;(try simp only [acts])
 refine ro 2 fun K hK=> ?_
 refine want rfl ?_
 go_simp
 refine (HMost n _).mono ?_
 rintro er Wx ⟨rfl,rfl⟩
 dsimp only
 refine nx hK hS fun hS=> ?_
 clear hK K hS
 (try simp only [acts])
 refine ro 3 fun K hK=> ?_
 refine want rfl ?_
 go_simp
 refine (HRU.out _ HY.out (HT.out _ HB.out)).mono ?_
 rintro er Wn ⟨y1,rfl,hs,hv,hb⟩
 obtain ⟨m1,hm1⟩:∃ m1,mrun k m0=m1:=⟨_,rfl⟩
 rw [hm1] at HG HM hs ⊢
 replace HP:=nB hb HP
 replace HQ:=nB hb HQ
 replace HB:=nW hb HB
 replace HY:=hU hs
 have HON:=hU (onesY hs)
 have HV1:Hid (y1.vp=vp∧y1.vw=.slice aw P.ws.length cw∧y1.vc=vc):=hU ⟨hv.1.trans HV.out.1,hv.2.1.trans HV.out.2.1,hv.2.2.1.trans HV.out.2.2.1⟩
 have HPM:Hid (∀ W,Below w.heap.size w W→PlanR W y1.vp y1.vw y1.vc m1.p):=hU (by rw [HV1.out.1,HV1.out.2.1,HV1.out.2.2,HM.out];exact HPL.out)
 have HM1:=hU hm1
 clear hb hs hv HRU hm1 HV
 dsimp only
 refine nx hK HQ.out fun hS=> ?_
 clear hK K hS
 (try simp only [acts])
 refine ro 4 fun K hK=> ?_
 refine want rfl ?_
 refine wp_store (v:=.agg (ycells y1 m1)) (off:=0) (new:=ycells y1 m1) rfl rfl rfl aggSys.size HQ.out rfl (show 0 + 11≤11 by decide) HON.out rfl ?_
 intro Wn hp
 have hB:=Below.put HB.out hp (by omega)
 replace HY:=hU (HY.out.put HQ.out hp (HPM.out _ hB) noSys (by decide) (by decide) (by decide))
 replace HP:=pO hp HP
 replace HQ:=pA hp
 replace HB:=hU hB
 clear hB hp HON
 refine nt hK ?_
 clear hK K
 (try simp only [acts])
 refine doneL (by kernel_rfl) (NoPanic.normal ?_) _
 obtain ⟨hg1,hw1⟩:=HG.out
 have HST:=hU (fun W hy ht=> HStep y1 m1 (0 + 15 * k) W hy hg1 hw1 (by omega) ht)
 have HG2:=hU (hg1.step hw1 (by omega))
 clear hg1 hw1
 repeat' (first|(refine wpList_load (t:=61) (v:=.agg (ycells y1 m1)) rfl rfl rfl (run_load_whole aggSys HQ.out rfl) ?_)|go_values|go_skip|go_guarded|refine wg ?_|go_step|go_upon)
 refine (HST.out _ HY.out (HT.out _ HB.out)).mono ?_
 rintro er Wn ⟨y2,rfl,hs,hv,hb⟩
 obtain ⟨m2,hm2⟩:∃ m2,mstep m1=m2:=⟨_,rfl⟩
 have HM2:=hU hm2
 rw [hm2] at hs HG2 ⊢
 replace HP:=nB hb HP
 replace HQ:=nB hb HQ
 replace HB:=nW hb HB
 replace HY:=hU (HY.out.below hb)
 have HY2:=hU hs
 have HON:=hU (onesY hs)
 clear hb hs hv HST hm2
 dsimp only
 obtain ⟨b6,hab6,hbz6⟩:=nbz HB
 have hb56:=nlt HQ hab6
 obtain ⟨W6,hW6,hba6,HZ6⟩:=nb1 (W:=Wn) (.cells zSy 61) hab6
 have hun:=mstep_un HG.out.1 (by omega)
 rw [HM2.out] at hun
 have hl1:y1.ls.length=m1.seats.length:=HY.out.len.1
 have hln:m2.seats.length=m1.seats.length:=by rw [HG2.out.1.sl,← HM2.out,mstep_p,HG.out.1.sl]
 have hl2:y2.ls.length=m1.seats.length:=by rw [HY2.out.len.1];exact hln
 have hmx:m1.seats.length≤4:=by rw [HG.out.1.sl];exact (Pl.check_zero HG.out.1.ck).2.1
 have HSG:=hU HG.out.1.sg
 obtain ⟨a8,cp8,hse8,_,_⟩:=HY.out.se.1.shape
 rw [hl1] at hse8
 obtain ⟨a9,cp9,hse9,_,_⟩:=HY2.out.se.1.shape
 rw [hl2] at hse9
 have HSE8:=hU hse8
 have HSE9:=hU hse9
 have HUN:=hU hun
 have HLN:=hU hln
 clear hun hse8 hse9 hl1 hl2 hln HG HG2 HM HM2
 repeat' (first
  |go_skip
  |(rw [hW6,hab6];clear hW6)
  |(refine sN 61 (.agg (ycells y2 m2)) 0 (ycells y2 m2) aggSys.size HZ6.out HON.out fun Wn hp=> ?_
    have hbb:=Below.put hba6 hp (Nat.le_of_eq hab6)
    replace HP:=nB hbb HP
    replace HQ:=nB hbb HQ
    replace HY:=hU (HY.out.below hbb)
    replace HY2:=hU (HY2.out.below hbb)
    replace HB:=nW hbb HB
    have HK:=pA hp
    clear hbb hp hba6 HZ6 HON)
  |go_values|go_skip|go_guarded|refine wg ?_|go_step|go_upon)
 obtain ⟨Wo,rfl⟩:∃ Wo,Wo=Wn:=⟨_,rfl⟩
 go_loopw [12] (fun iv wr=> OthR Wo m1.seats.length iv wr) (fun iv _=> m1.seats.length - (intOf iv).toNat)
 case atStart=> exact ⟨0,Nat.zero_le _,rfl,hU (Below.refl _ _)⟩
 case round=>
  obtain ⟨i,hi,rfl,HW⟩:=hrel
  obtain ⟨Wn,rfl⟩:∃ Wn,Wn=wr:=⟨_,rfl⟩
  replace HQ:=nB HW.out HQ
  replace HK:=nB HW.out HK
  replace HY:=hU (HY.out.below HW.out)
  replace HY2:=hU (HY2.out.below HW.out)
  replace HB:=nW HW.out HB
  have i0:(0:Int)≤(i:Int):=by omega
  have c8:Wn.cell? ⟨b5,8,none⟩=some (.slice a8 m1.seats.length cp8):=(hcell HQ.out 8).trans (congrArg some HSE8.out)
  by_cases hil:i<m1.seats.length
  · have e1:decide ((i:Int)<(m1.seats.length:Int))=true:=by simp;omega
    have e2:decide (i<m1.seats.length)=true:=by simp;omega
    have e3:(i:Int)<(m1.seats.length:Int):=by omega
    have e4:IntKind.i64.wrap ((i:Int) + 1)=(i:Int) + 1:=by rw [IntKind.wrap_i64];omega
    obtain ⟨s9,hs9⟩:∃ s,m2.seats[i]? =some s:=⟨_,List.getElem?_eq_getElem (by rw [HLN.out];exact hil)⟩
    obtain ⟨s8,hs8,hu1,hu2⟩:=HUN.out i s9 hs9
    have hsg:=HSG.out s8 (List.mem_of_getElem? hs8)
    have n0:=hsg.k.now0
    have n1:=hsg.nw
    have HU:=hU (And.intro hu1 hu2)
    clear hsg hu1 hu2
    obtain ⟨x8,hx8,hxs8,hl8⟩:=HY.out.seat hs8
    have hel8:=HY.out.se.1
    rw [HSE8.out] at hel8
    obtain ⟨g8,off8,hga8,hgl8,hc8⟩:=hel8.elem.2.2.2 i x8 hx8
    subst hga8
    have HCK8:Hid (∀ W,Below Wn.heap.size Wn W→∀ j u,(kcells x8.y s8.k)[j]? =some u→W.cell? ⟨g8,off8 + i * 19 + j,none⟩=some u):=hU (fun W hb j u hj=> hc8 W hb j u (by
     rw [show SB.cells x8=scells x8.y s8 by unfold SB.cells;rw [hxs8]]
     exact scells_at hj))
    have HL8:Hid (LayAt Wn x8.y x8.bs s8.k):=hU hl8
    obtain ⟨t8,tc8,htr8,_,_⟩:=HL8.out.tr.shape
    have HTR8:=hU htr8
    have hgb8:g8<Wn.heap.size:=hgl8
    clear hx8 hxs8 hl8 hel8 hgl8 hc8 htr8
    obtain ⟨x9,hx9,hxs9,hl9⟩:=HY2.out.seat hs9
    have hel9:=HY2.out.se.1
    rw [HSE9.out] at hel9
    obtain ⟨g9,off9,hga9,hgl9,hc9⟩:=hel9.elem.2.2.2 i x9 hx9
    subst hga9
    have HCK9:Hid (∀ W,Below Wn.heap.size Wn W→∀ j u,(kcells x9.y s9.k)[j]? =some u→W.cell? ⟨g9,off9 + i * 19 + j,none⟩=some u):=hU (fun W hb j u hj=> hc9 W hb j u (by
     rw [show SB.cells x9=scells x9.y s9 by unfold SB.cells;rw [hxs9]]
     exact scells_at hj))
    have HL9:Hid (LayAt Wn x9.y x9.bs s9.k):=hU hl9
    obtain ⟨t9,tc9,htr9,_,_⟩:=HL9.out.tr.shape
    have HTR9:=hU htr9
    have hgb9:g9<Wn.heap.size:=hgl9
    clear hx9 hxs9 hl9 hel9 hgl9 hc9 htr9
    clear hs8 hs9 c8
    obtain ⟨k8,hk8,hkz8⟩:=nbz HB
    have hkw8:=HW.out.size
    obtain ⟨W8,hW8,hba8,HZ8⟩:=nb1 (W:=Wn) (.cells zSe 41) hk8
    have c8:Wn.cell? ⟨b5,8,none⟩=some (.slice (some ⟨g8,off8,none⟩) m1.seats.length cp8):=(hcell HQ.out 8).trans (congrArg some HSE8.out)
    repeat' (first
     |(rw [hW8,hk8];clear hW8)
     |(refine wpList_load (t:=41) (v:=.agg (kcells x8.y s8.k)) rfl rfl rfl (run_load_arr aggKern rfl (HCK8.out Wn (Below.refl _ _))) ?_)
     |(refine sN 41 (.agg (kcells x8.y s8.k)) 0 (kcells x8.y s8.k) aggKern.size HZ8.out (onesK HL8.out) fun Wn hp=> ?_
       have hbb:=Below.put hba8 hp (Nat.le_of_eq hk8)
       replace HQ:=nB hbb HQ
       replace HK:=nB hbb HK
       replace HW:=hU (HW.out.trans (hbb.mono HW.out.size))
       replace HB:=nW hbb HB
       have HX8:=pA hp
       replace HL9:=hU (HL9.out.below hbb)
       have hcc:=HCK9.out
       replace HCK9:Hid (∀ W,Below Wn.heap.size Wn W→∀ j u,(kcells x9.y s9.k)[j]? =some u→W.cell? ⟨g9,off9 + i * 19 + j,none⟩=some u):=hU (fun W hb=> hcc W (hbb.trans (hb.mono hbb.size)))
       clear hcc
       clear hbb hp hba8 HZ8
       refine Kp.out ?_)
     |go_values|go_skip|go_guarded|refine wg ?_|go_step|go_upon)
    refine ⟨?_⟩
    clear c8
    obtain ⟨k9,hk9,hkz9⟩:=nbz HB
    have hkw9:=HW.out.size
    obtain ⟨W9,hW9,hba9,HZ9⟩:=nb1 (W:=Wn) (.cells zSe 41) hk9
    have c9:Wn.cell? ⟨b6,8,none⟩=some (.slice (some ⟨g9,off9,none⟩) m1.seats.length cp9):=(hcell HK.out 8).trans (congrArg some HSE9.out)
    repeat' (first
     |(rw [hW9,hk9];clear hW9)
     |(refine wpList_load (t:=41) (v:=.agg (kcells x9.y s9.k)) rfl rfl rfl (run_load_arr aggKern rfl (HCK9.out Wn (Below.refl _ _))) ?_)
     |(refine sN 41 (.agg (kcells x9.y s9.k)) 0 (kcells x9.y s9.k) aggKern.size HZ9.out (onesK HL9.out) fun Wn hp=> ?_
       have hbb:=Below.put hba9 hp (Nat.le_of_eq hk9)
       replace HQ:=nB hbb HQ
       replace HK:=nB hbb HK
       replace HW:=hU (HW.out.trans (hbb.mono HW.out.size))
       replace HB:=nW hbb HB
       have HX9:=pA hp
       replace HX8:=nB hbb HX8
       clear hbb hp hba9 HZ9
       refine Kp.out ?_)
     |go_values|go_skip|go_guarded|refine wg ?_|go_step|go_upon)
    refine ⟨?_⟩
    clear c9 HCK8 HCK9 HL8 HL9
    obtain ⟨ow,how⟩:∃ ow,m2.owner=ow:=⟨_,rfl⟩
    have co:Wn.cell? ⟨b6,10,none⟩=some (.int .i64 ow):=by rw [← how];exact hcell HK.out 10
    have k7:Wn.cell? ⟨k8,7,none⟩=some (.int .u64 s8.k.now):=hcell HX8.out 7
    have k12:Wn.cell? ⟨k8,12,none⟩=some (.string s8.k.cons):=hcell HX8.out 12
    have k13:Wn.cell? ⟨k8,13,none⟩=some (.slice t8 s8.k.trace.length tc8):=(hcell HX8.out 13).trans (congrArg some HTR8.out)
    have l7:Wn.cell? ⟨k9,7,none⟩=some (.int .u64 s9.k.now):=hcell HX9.out 7
    have l12:Wn.cell? ⟨k9,12,none⟩=some (.string s9.k.cons):=hcell HX9.out 12
    have l13:Wn.cell? ⟨k9,13,none⟩=some (.slice t9 s9.k.trace.length tc9):=(hcell HX9.out 13).trans (congrArg some HTR9.out)
    obtain ⟨hu1,hu2⟩:=HU.out
    rw [how] at hu1 hu2
    have hwn:IntKind.u64.wrap (s8.k.now + 1)=s8.k.now + 1:=by rw [IntKind.wrap_u64];omega
    clear HU how HTR8 HTR9 HX8 HX9
    by_cases hio:(i:Int)=ow
    · have q1:((i:Int)==ow)=true:=by simpa using hio
      have q2:((i:Int) !=ow)=false:=by simpa using hio
      have hv:=hu2 hio
      clear hu1 hu2 hio
      rcases hv with hv|hv
      all_goals rw [hv] at l7
      case' inr=> have q3:(s8.k.now + 1 !=s8.k.now)=true:=by simp;omega
      all_goals repeat' (first|go_values|go_skip|go_guarded|refine wg ?_|go_step|go_upon)
      all_goals exact ⟨⟨i + 1,by omega,by go_num,HW⟩,by simp [intOf];omega⟩
    · have q1:((i:Int)==ow)=false:=by simpa using hio
      have q2:((i:Int) !=ow)=true:=by simpa using hio
      obtain ⟨v1,v2,v3⟩:=hu1 hio
      rw [v1] at l7
      rw [v2] at l13
      rw [v3] at l12
      clear hu1 hu2 hio v1 v2 v3
      refine sg ?_;intros
      exact ⟨⟨i + 1,by omega,by go_num,HW⟩,by simp [intOf];omega⟩
  · obtain rfl:i=m1.seats.length:=by omega
    have e1:decide ((m1.seats.length:Int)<(m1.seats.length:Int))=false:=by simp
    refine sg ?_;intros
    go_ret
    exact gives_of rfl HB.out
end Hy
end Go.Proofs.YtbeakngieodlhaaGreatDoor
namespace Go.Proofs.YtbeakngieodlhaaGreatDoor.lawHyperOthers
open Go.ChangeShapes Go.WideShapes Go.ChangeAt Go.RowKit
theorem contract (H:Type) (enc:TypeId × Value→H) (W:World) (base:Nat) (args:Array Value) (ds gs:List (DataW H)) (before:List MemPlace)
 (hval:∀ (j:Nat) t v,Tryz.f7.params[j]? =some t→args[j]? =some v→Value.okWide Tryz.prog W .any base t v)
 (hW:DataW.Whole enc Tryz.prog Tryz.f7.params.toList Rows.hyperOthersSpec.vars false W args.toList ds gs before) (hL:laidMetH Tryz.prog Rows.hyperOthersRow.laid W)
 (hr:(DataW.weightsEach Tryz.prog (Tryz.f7.params.toList ++ (OpenSpec.ofChange Rows.hyperOthersSpec).bare.plain.varTypes Tryz.prog) (ds ++ gs)).all (· ≤reachBytes)=true):
 Calls Tryz.prog 7 args W fun e W'=> ∃ v,e=.returned v∧Rows.hyperOthersSpec.post enc Tryz.prog Tryz.f7 false true false false W args v W':=by
 have hW':=hW
 obtain ⟨p,q,hA0,hV,rfl,hfz,hnd⟩:=hW
 have hA:DataW.TrodAll enc Tryz.prog W 0 (fun _=> true) true Tryz.f7.params.toList args.toList ds p:=hA0
 rw [Tryz.params7] at hA hval
 obtain ⟨v0,v1,v2,d0,d1,d2,p0,p1,p2,rfl,rfl,rfl,h0,h1,h2⟩:=trodAll_three hA
 obtain ⟨rfl,rfl⟩:=trodVars_none hV
 obtain ⟨vp,vw,vc,P,rfl,hpl,hfr⟩:=Hy.open_planR (hval 0 53 v0 rfl rfl) h0
 obtain ⟨l,him,hwl⟩:=Hy.open_images (hval 1 54 v1 rfl rfl) h1
 have hsl:=Hy.img_small (j:=1) hr (by kernel_rfl) rfl hwl
 obtain ⟨n,rfl,rfl,rfl,wn⟩:=open_int Tryz.underlying3 (hval 2 3 v2 rfl rfl) h2
 refine (Hy.LHyperOthers vp vw vc v1 P l n W hpl hfr him hsl (tab_of hL)).mono fun e W' ⟨he,hb⟩=> ?_
 subst he
 exact ⟨_,rfl,law_post (tb:=4) hW' rfl rfl rfl rfl (by kernel_rfl) Tryz.underlying4 laid_outB (by rw [Tryz.params7];decide +kernel) hb⟩
abbrev zeros:Array Value:=#[.agg #[.slice none 0 0,.int .i64 0,.slice none 0 0,.slice none 0 0],.slice none 0 0,.int .i64 0]
theorem laid_met (os:Os):laidMet Tryz.prog Rows.hyperOthersRow.laid ((laidWorld os).forCall (fun _ _=> 0) ⟨#[],zeros,[]⟩).memory:=
 laidMet_of_run' 8 (by kernel_rfl) (by kernel_rfl)
theorem reads (os:Os) {H:Type} (enc:TypeId × Value→H):∃ places,DataW.whole enc Tryz.prog ((laidWorld os).forCall (fun _ _=> 0) ⟨#[],zeros,[]⟩).memory Tryz.f7.params.toList Rows.hyperOthersSpec.vars false zeros.toList 8=some ([.agg [.nil,.lit (.int .i64 0),.nil,.nil],.nil,.lit (.int .i64 0)],[],places):=
 ⟨[],by kernel_rfl⟩
theorem lifted (os:Os) (started:os.Started) (H:Type) (enc:TypeId × Value→H) (F:Stop.Interp):
 ReturnsInHanded {} Tryz.checked os 7 .any ((OpenSpec.ofChange Rows.hyperOthersSpec).preRow enc Tryz.prog Tryz.f7 Rows.hyperOthersRow.domain false Rows.hyperOthersRow.laid) (((OpenSpec.ofChange Rows.hyperOthersSpec).at F).post enc Tryz.prog Tryz.f7 false true false false):=by
 obtain ⟨places,hx⟩:=reads os enc
 refine returnsInHanded_of_row (C:=Tryz.checked) (s:=OpenSpec.ofChange Rows.hyperOthersSpec) own started (by kernel_rfl) Tryz.func7
  (witness_row_at (enc:=enc) (C:=Tryz.checked) false (laidWorld os) zeros rfl (by kernel_rfl) (by kernel_rfl) (by kernel_rfl)
    (OpenSpec.preRow_of_cond 8 hx (by kernel_rfl) (fun k hk=> by cases hk) (by kernel_rfl) (laid_met os))) ?_
 intro W base args ds gs before hval hW _ hcond hr hL _ _
 exact contract H enc W base args ds gs before hval hW hL hr
theorem j0:(Rows.hyperOthersRow.inPlace==Tryz.pinned.checked.prog.inPlace 7)=true:=by kernel_rfl
theorem j1:(Rows.hyperOthersRow.unfollowed==Tryz.pinned.checked.prog.unfollowed 7)=true:=by kernel_rfl
theorem j2:(Rows.hyperOthersRow.recurses==Tryz.pinned.checked.prog.recurses 7)=true:=by kernel_rfl
theorem j3:(Rows.hyperOthersRow.named==Tryz.pinned.checked.prog.varsNamed 7)=true:=by kernel_rfl
theorem facts:joinedFacts Tryz.pinned.checked.prog 7 Tryz.f7 (OpenSpec.ofChange Rows.hyperOthersSpec).bare Rows.hyperOthersRow=true:=by
 unfold joinedFacts
 rw [j0,j1,j2,j3]
 kernel_rfl
theorem said:Rows.HyperOthersSaid:=
 OpenClaim.holds_of_cond 7 Tryz.f7 rfl rfl rfl rfl rfl rfl rfl ⟨rfl,rfl,rfl,rfl,rfl⟩ rfl rfl rfl rfl rfl (by kernel_rfl) Tryz.func7 facts
  (of_decide_eq_true (by kernel_rfl)) (by unfold Func.isWrapper;first|(rw [if_pos (by decide +kernel)];kernel_rfl)|(rw [if_neg (by decide +kernel)];exact ⟨rfl,rfl⟩))
  (fun os started H enc _ F=> by rw [OpenClaim.pre_eq_preRow];exact lifted os started H enc F)
theorem plain (f:FuncId) (fn:Func) (hf:Tryz.pinned.checked.prog.funcNamed "transom/transomlaw16.HyperOthers" =some f) (hfn:Tryz.pinned.checked.prog.funcs[f]? =some fn):
 false=Tryz.pinned.checked.prog.looks []∧∀ (j:Nat) t,fn.params[j]? =some t→Tryz.pinned.checked.prog.wantsStandIn t=false:=by
 obtain rfl:f=7:=Option.some.inj ((show Tryz.prog.funcNamed "transom/transomlaw16.HyperOthers" =some 7 by kernel_rfl).symm.trans hf)|>.symm
 obtain rfl:fn=Tryz.f7:=(Option.some.inj (Tryz.func7.symm.trans hfn)).symm
 refine ⟨looks_off,fun j t ht=> ?_⟩
 have hm:=Array.mem_of_getElem? ht
 rw [Tryz.params7] at hm
 have hall:∀ t ∈ (#[53,54,3]:Array TypeId),Tryz.prog.wantsStandIn t=false:=by decide +kernel
 exact hall t hm
theorem card:Rows.HyperOthersCardSaid:=
 Claim7.holds_tied_plain_at .later [] _ _ _ _ said (fun _ h=> by cases h) (by kernel_rfl) (fun _ h=> by cases h) hyperOthers_row_tie rfl ⟨rfl,rfl⟩ (by kernel_rfl) rfl plain (by kernel_rfl)
#print axioms card
end Go.Proofs.YtbeakngieodlhaaGreatDoor.lawHyperOthers
