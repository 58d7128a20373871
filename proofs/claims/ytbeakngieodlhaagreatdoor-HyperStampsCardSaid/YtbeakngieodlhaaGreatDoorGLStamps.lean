/- All that arrived rises in its own time. Conditions: as told. -/
import Derived.Test.YtbeakngieodlhaaGreatDoorHyShown
set_option linter.unusedVariables false
set_option maxRecDepth 100000
set_option maxHeartbeats 8000000
set_option linter.unusedSimpArgs false
namespace Go.Proofs.YtbeakngieodlhaaGreatDoor
open Go.RowKit KR Kn RegT3
namespace Hy
theorem toGo_spec {part:Int}:∀ {r pre:List Chan} {p:Int} {x:Int × Int},0≤p→toGo part pre r p=some x→∃ c,(outsOf r part)[p.toNat]? =some c∧c.dst=x.1∧0≤x.2∧(insOf (pre ++ r) x.1)[x.2.toNat]? =some c
 |[],_,_,_,_,h=> by cases h
 |c::r,pre,p,x,hp,h=> by
  unfold toGo at h
  have happ:pre ++ c::r=pre ++ [c] ++ r:=by simp
  split at h
  · next hc=>
    have ho:outsOf (c::r) part=c::outsOf r part:=by unfold outsOf;rw [List.filter_cons,if_pos (by simpa using hc)]
    split at h
    · next h0=>
      obtain rfl:=Option.some.inj h
      refine ⟨c,by rw [ho,h0];rfl,rfl,Int.natCast_nonneg _,?_⟩
      show (insOf (pre ++ c::r) c.dst)[(((insOf pre c.dst).length:Nat):Int).toNat]? =some c
      have:insOf (pre ++ c::r) c.dst=insOf pre c.dst ++ c::insOf r c.dst:=by unfold insOf;rw [List.filter_append,List.filter_cons,if_pos (by simp)]
      rw [this,Int.toNat_natCast,List.getElem?_append_right (Nat.le_refl _),Nat.sub_self]
      rfl
    · next h0=>
      obtain ⟨c',h1,h2,h3,h4⟩:=toGo_spec (by omega) h
      refine ⟨c',?_,h2,h3,by rw [happ];exact h4⟩
      rw [ho,show p.toNat=(p - 1).toNat + 1 by omega,List.getElem?_cons_succ]
      exact h1
  · next hc=>
    obtain ⟨c',h1,h2,h3,h4⟩:=toGo_spec hp h
    refine ⟨c',?_,h2,h3,by rw [happ];exact h4⟩
    unfold outsOf at h1 ⊢
    rw [List.filter_cons,if_neg (by simpa using hc)]
    exact h1
theorem toOf_spec {cs:List Chan} {part port:Int} {x:Int × Int} (h:toOf cs part port=some x):∃ c,(outsOf cs part)[port.toNat]? =some c∧c.dst=x.1∧0≤x.2∧(insOf cs x.1)[x.2.toNat]? =some c:=by
 unfold toOf at h
 split at h
 · cases h
 · exact toGo_spec (by omega) h
structure Wire (m:Mach):Prop where
 ch:∀ (i:Nat) (s:Seat),m.seats[i]? =some s→s.k.outs=outsOf (chans m.p) i∧s.k.ins_=insOf (chans m.p) i
 st:∀ (i:Nat) (s:Seat) (a:List Stamp),m.seats[i]? =some s→m.arr[i]? =some a→(∀ x ∈ a,x.at_≤s.k.now∧0≤x.port∧∃ c,(insOf (chans m.p) i)[x.port.toNat]? =some c∧(x.body.size:Int)≤c.size)∧a.Pairwise (fun x y=> x.at_≤y.at_)
theorem Wire.set {m m':Mach} (h:Wire m) {j:Nat} {t t':Seat} (ht:m.seats[j]? =some t) (hs:m'.seats=m.seats.set j t') (ha:m'.arr=m.arr) (hp:m'.p=m.p) (ho:t'.k.outs=t.k.outs∧t'.k.ins_=t.k.ins_) (hn:t.k.now≤t'.k.now):Wire m':=by
 have key:∀ (i:Nat) (s:Seat),m'.seats[i]? =some s→∃ s0,m.seats[i]? =some s0∧(s.k.outs=s0.k.outs∧s.k.ins_=s0.k.ins_)∧s0.k.now≤s.k.now:=fun i s h=> by
  rw [hs] at h
  by_cases hij:j=i
  · subst hij
    rw [List.getElem?_set_self (List.getElem?_eq_some_iff.1 ht).1] at h
    obtain rfl:=Option.some.inj h
    exact ⟨t,ht,ho,hn⟩
  · rw [List.getElem?_set_ne hij] at h
    exact ⟨s,h,⟨rfl,rfl⟩,Int.le_refl _⟩
 refine ⟨fun i s hi=> ?_,fun i s a hi hai=> ?_⟩
 · obtain ⟨s0,h0,⟨e1,e2⟩,_⟩:=key i s hi
   rw [e1,e2,hp]
   exact h.ch i s0 h0
 · obtain ⟨s0,h0,_,hle⟩:=key i s hi
   rw [ha] at hai
   rw [hp]
   obtain ⟨h1,h2⟩:=h.st i s0 a h0 hai
   exact ⟨fun x hx=> ⟨Int.le_trans (h1 x hx).1 hle,(h1 x hx).2⟩,h2⟩
theorem Wire.same {m m':Mach} (h:Wire m) (hs:m'.seats=m.seats) (ha:m'.arr=m.arr) (hp:m'.p=m.p):Wire m':=⟨fun i s hi=> by rw [hs] at hi;rw [hp];exact h.ch i s hi,fun i s a hi hai=> by rw [hs] at hi;rw [ha] at hai;rw [hp];exact h.st i s a hi hai⟩
theorem arrive_chans (t:Seat) (j:Int) (body:ByteArray):(sarrive t j body).k.outs=t.k.outs∧(sarrive t j body).k.ins_=t.k.ins_:=by
 refine ⟨(arrive_rows t.k j body t.k.now).1,?_⟩
 show (arrive t.k j body t.k.now).ins_=_
 unfold arrive
 split
 · rfl
 · split <;> rfl
theorem Wire.send {m:Mach} (h:Wire m) (hc:Pl.check m.p=0) (who:Nat) (o:Out) (ho:∀ c,(outsOf (chans m.p) who)[o.port.toNat]? =some c→(o.body.size:Int)≤c.size):Wire (msend who m o):=by
 unfold msend
 split
 · exact h
 · next q j hq=>
   obtain ⟨q0,q1,_⟩:=toOf_lt hc hq
   obtain ⟨c,c1,c2,c3,c4⟩:=toOf_spec hq
   have c2:c.dst=q:=c2
   have c3:0≤j:=c3
   have c4:(insOf (chans m.p) q)[j.toNat]? =some c:=c4
   have q0:0≤q:=q0
   split
   · next t a ht ha=>
     have h1:Wire {m with seats:=m.seats.set q.toNat (sarrive t j o.body)}:=h.set ht rfl rfl rfl (arrive_chans t j o.body) (by show _≤(arrive t.k j o.body t.k.now).now;rw [arrive_now];exact Int.le_refl _)
     refine ⟨h1.ch,fun i s b hi hb=> ?_⟩
     have hb:(m.arr.set q.toNat (a ++ [⟨t.k.now,j,o.body⟩]))[i]? =some b:=hb
     by_cases hij:q.toNat=i
     · subst hij
       rw [List.getElem?_set_self (List.getElem?_eq_some_iff.1 ha).1] at hb
       obtain rfl:=Option.some.inj hb
       have hi:(m.seats.set q.toNat (sarrive t j o.body))[q.toNat]? =some s:=hi
       rw [List.getElem?_set_self (List.getElem?_eq_some_iff.1 ht).1] at hi
       obtain rfl:=Option.some.inj hi
       have hn:(sarrive t j o.body).k.now=t.k.now:=arrive_now _ _ _ _
       rw [hn]
       obtain ⟨g1,g2⟩:=h.st _ t a ht ha
       refine ⟨fun x hx=> ?_,?_⟩
       · rcases List.mem_append.1 hx with hx|hx
         · exact g1 x hx
         · rw [List.mem_singleton] at hx
           subst hx
           refine ⟨Int.le_refl _,c3,c,?_,ho c c1⟩
           rw [Int.toNat_of_nonneg q0]
           exact c4
       · refine List.pairwise_append.2 ⟨g2,List.pairwise_singleton _ _,fun x hx y hy=> ?_⟩
         rw [List.mem_singleton] at hy
         subst hy
         exact (g1 x hx).1
     · rw [List.getElem?_set_ne hij] at hb
       exact h1.st i s b hi hb
   · exact h
theorem Wire.sends {who:Nat}:∀ {l:List Out} {m:Mach},Wire m→Pl.check m.p=0→(∀ o ∈ l,∀ c,(outsOf (chans m.p) who)[o.port.toNat]? =some c→(o.body.size:Int)≤c.size)→Wire (l.foldl (msend who) m)
 |[],_,h,_,_=> h
 |o::l,m,h,hc,hl=> by
  have e:=(msend_frame who m o).1
  have h1:=Wire.sends (who:=who) (l:=l) (h.send hc who o (hl o List.mem_cons_self)) (by rw [e];exact hc) (fun x hx=> by rw [e];exact hl x (List.mem_cons_of_mem _ hx))
  exact h1
theorem slooks_chans (x:Part) (s:Seat):(slooks x s).k.ins_=s.k.ins_:=by
 unfold slooks
 split
 · rfl
 · split
   · rfl
   · split
     · exact (boot_frame x.mem s.k.images s.k.outs s.k.ins_ s.k.now).2.2.1
     · rfl
theorem scycle_chans {n:Nat} {x:Part} {s:Seat} (hg:SGood n s) (h1:s.st=1):(scycle x s).k.outs=s.k.outs∧(scycle x s).k.ins_=s.k.ins_:=by
 unfold scycle
 rw [if_pos h1,slooks_chans,(slooks_sent x (sgoes s)).1.2]
 refine ⟨step_outs hg.k,?_⟩
 obtain ⟨_,_,k2,ht,he⟩:=hg.k.inv.step hg.k.life
 show (Kn.step s.k).ins_=_
 rw [he]
 exact ht.ins_
theorem Wire.win {m:Mach} (h:Wire m):Wire (mwin m):=by
 unfold mwin
 split
 · split
   · next t ht=>
     refine h.set ht rfl rfl rfl ?_ ?_
     · unfold swindow
       split <;> exact ⟨rfl,rfl⟩
     · unfold swindow
       split <;> exact Int.le_refl _
   · exact h.same rfl rfl rfl
 · exact h.same rfl rfl rfl
theorem Wire.cycle {n who:Nat} {m:Mach} {s:Seat} (h:Wire m) (hc:Pl.check m.p=0) (hs:m.seats[who]? =some s) (hg:SGood n s) (hn:n≤1000000) (h1:s.st=1):Wire (mcycle who m):=by
 rw [mcycle_some hs]
 have e:=scycle_chans (x:=partOf (m.p.ps.getD who [])) hg h1
 have hl:Wire (lives who s m):=h.set hs rfl rfl rfl e (by rw [scycle_now hg hn h1];omega)
 have hso:=(scycle_sent (x:=partOf (m.p.ps.getD who [])) hg h1).1
 have h2:=Wire.sends (who:=who) (l:=(scycle (partOf (m.p.ps.getD who [])) s).k.sent) hl hc (fun o ho c hcc=> by
  obtain ⟨_,_,_,c',hc',hz⟩:=hso o ho
  rw [e.1,(h.ch who s hs).1] at hc'
  have hcc:(outsOf (chans m.p) who)[o.port.toNat]? =some c:=hcc
  rw [hc'] at hcc
  obtain rfl:=Option.some.inj hcc
  exact hz)
 unfold mwants
 split
 · split
   · exact h2.same rfl rfl rfl
   · exact h2
 · exact h2
theorem Wire.step {n:Nat} {m:Mach} (h:Wire m) (hg:MGood n m) (hn:n≤1000000):Wire (mstep m):=by
 have h1:=h.win
 have g1:=hg.win
 have ho:Wire (mown m):=by
  unfold mown
  split
  · split
    · next s hs=>
      split
      · next h2=> exact (h1.cycle g1.ck hs (g1.sg s (List.mem_of_getElem? hs)) hn h2).same rfl rfl rfl
      · exact h1.same rfl rfl rfl
    · exact h1
  · exact h1
 unfold mstep mtick
 split
 · exact ho.same rfl rfl rfl
 · exact ho.same rfl rfl rfl
theorem Wire.run:∀ {k n:Nat} {m:Mach},Wire m→MGood n m→Wants m→n + 15 * k≤50000→Wire (mrun k m)
 |0,_,_,h,_,_,_=> h
 |k + 1,n,m,h,hg,hw,hn=> by
  obtain ⟨h1,h2⟩:=hg.step hw (by omega)
  exact Wire.run (k:=k) (h.step hg (by omega)) h1 h2 (by omega)
theorem Wire.begin {P:Pl.Plan} {l:List (List ByteArray)}:Wire (mbegin P l):=by
 refine ⟨fun i s hi=> ?_,fun i s a hi ha=> ?_⟩
 · have hi:(List.map _ (List.range P.ps.length))[i]? =some s:=hi
   rw [List.getElem?_map] at hi
   obtain ⟨k,hk,rfl⟩:=Option.map_eq_some_iff.1 hi
   obtain rfl:k=i:=by
    have hl:=(List.getElem?_eq_some_iff.1 hk).1
    rw [List.length_range] at hl
    rw [List.getElem?_range hl] at hk
    exact (Option.some.inj hk).symm
   obtain ⟨_,_,b1,b2,_⟩:=boot_frame (partOf (P.ps.getD k [])).mem (l.getD k []) (outsOf (chans P) k) (insOf (chans P) k) 0
   unfold sbegin
   rw [(slooks_sent _ _).1.2,slooks_chans]
   exact ⟨b2,b1⟩
 · have ha:(List.replicate P.ps.length [])[i]? =some a:=ha
   obtain rfl:a=[]:=List.eq_of_mem_replicate (List.mem_of_getElem? ha)
   exact ⟨fun x hx=> (nomatch hx),List.Pairwise.nil⟩
theorem scells_at {y:Lay} {s:Seat} {j:Nat} {u:Value} (h:(kcells y s.k)[j]? =some u):(scells y s)[j]? =some u:=by
 have hj:j<17:=(Array.getElem?_eq_some_iff.1 h).1
 unfold kcells at h
 unfold scells
 rcases j with _|_|_|_|_|_|_|_|_|_|_|_|_|_|_|_|_|j <;> first|exact h|(exfalso;omega)
def StmR (Wo:World) (n:Nat) (iv:Value) (W:World):Prop:=∃ i:Nat,i≤n∧iv=.int .i64 i∧Hid (Below Wo.heap.size Wo W)
theorem LHyperStamps (vp vw vc im:Value) (P:Pl.Plan) (l:List (List ByteArray)) (n:Int) (w:World) (h:PlanR w vp vw vc P) (hfr:P.fr≤9223372036854775807) (him:ImgAt w im l) (hl:∀ r ∈ l,r.length≤8796093022207) (hT:Tab w):
 Calls Tryz.prog 12 #[.agg (pcells vp vw vc P.fr),im,.int .i64 n] w (Gives (.bool true) w):=by
 obtain ⟨aw,cw,rfl⟩:=h.wins
 obtain ⟨ai,ci,rfl,_⟩:=id him
 obtain ⟨Wn,hW0,hb0,HP⟩:=nb1 (W:=w) (.cells (pcells vp (.slice aw P.ws.length cw) vc P.fr) 53) rfl
 have HB:=hU hb0
 have HT:=hU (fun W (h:Below w.heap.size w W)=> hT.below h)
 have HPL:=hU (fun W (hb:Below w.heap.size w W)=> h.below hb)
 have HIM:=hU (fun W (hb:Below w.heap.size w W)=> him.below hb)
 have HBE:=hU (fun W (hb:Below w.heap.size w W)=> HBegin vp (.slice aw P.ws.length cw) vc (.slice ai l.length ci) P l W (h.below hb) hfr (him.below hb) hl)
 clear hb0 h him hl hT
 go_in
 repeat' (first|(rw [hW0];clear hW0)|go_values|go_skip|go_guarded|refine wg ?_|go_step|go_upon)
 refine (HShown _ (HT.out _ HB.out)).mono ?_
 rintro er Wn ⟨rfl,hb⟩
 replace HP:=nB hb HP
 replace HB:=nW hb HB
 clear hb
 dsimp only
 refine sg ?_;intros
 refine (HFew (.slice ai l.length ci) l _ (HIM.out _ HB.out)).mono ?_
 rintro er Wx ⟨rfl,rfl⟩
 obtain ⟨sm,hsm⟩:∃ sm,fewI l=sm:=⟨_,rfl⟩
 rw [hsm]
 dsimp only
 repeat' (first|(refine wpList_load (t:=53) (v:=.agg (pcells vp (.slice aw P.ws.length cw) vc P.fr)) rfl rfl rfl (run_load_whole aggPlan HP.out rfl) ?_)|go_values|go_skip|go_guarded|refine wg ?_|go_step|go_upon)
 refine (HBE.out _ HB.out).mono ?_
 rintro er Wn hg
 obtain ⟨c,ck,rfl,hcs,hon,hb,hgo⟩:=hg.cells
 clear hg HBE HIM
 replace HP:=nB hb HP
 replace HB:=nW hb HB
 have HCS:=hU hcs
 have HON:=hU hon
 have HGO:=hU hgo
 have hb9:Below Wn.heap.size Wn Wn:=Below.refl _ _
 have HR:=hU hb9
 clear hb hcs hon hgo hb9
 obtain ⟨b5,hab5,hbz5⟩:=nbz HB
 have hb5:=nlt HP hab5
 obtain ⟨Wo,hWo⟩:∃ Wo,Wo=Wn:=⟨_,rfl⟩
 rw [← hWo] at HGO
 replace HR:Hid (Below Wo.heap.size Wo Wn):=hU (by rw [hWo];exact Below.refl _ _)
 clear hWo
 obtain ⟨W5,hW5,hba5,HZ5⟩:=nb1 (W:=Wn) (.cells zSy 61) hab5
 dsimp only
 have hcase:sm=false∨sm=true∧ck ≠ 0∨sm=true∧ck=0∧n<0∨sm=true∧ck=0∧¬ n<0:=by
  cases sm
  · exact .inl rfl
  · by_cases h1:ck=0
    · by_cases h2:n<0
      · exact .inr (.inr (.inl ⟨rfl,h1,h2⟩))
      · exact .inr (.inr (.inr ⟨rfl,h1,h2⟩))
    · exact .inr (.inl ⟨rfl,h1⟩)
 rcases hcase with rfl|⟨rfl,hck⟩|⟨rfl,rfl,hn⟩|⟨rfl,rfl,hn⟩
 case' inr.inl=> have e1:(ck !=0)=true:=by simpa using hck
 case' inr.inr.inl=> have e2:decide (n<0)=true:=by simpa using hn
 case' inr.inr.inr=> have e2:decide (n<0)=false:=by simpa using hn
 all_goals repeat' (first
  |(rw [hW5,hab5];clear hW5)
  |(refine wpList_store (t:=61) (v:=.agg c) (off:=0) (new:=c) rfl rfl rfl rfl aggSys.size HZ5.out HCS.out (show 0 + 11≤11 by decide) HON.out (splice_whole (by rw [show (Value.agg c).cells.size=11 from HCS.out];rfl)) ?_;intro Wn hp
    have hbb:=Below.put hba5 hp (Nat.le_of_eq hab5)
    replace HP:=nB hbb HP
    replace HR:=hU (HR.out.trans (hbb.mono HR.out.size))
    replace HB:=nW hbb HB
    have HQ:=pA hp
    clear hbb hp hba5 HZ5 HON HCS)
  |go_values|go_skip|go_guarded|refine wg ?_|go_step|go_upon)
 rotate_left 1
 · go_ret;exact gives_of rfl HB.out
 · go_ret;exact gives_of rfl HB.out
 · go_ret;exact gives_of rfl HB.out
 clear e2
 obtain ⟨hck,y,rfl,hs,hv⟩:=HGO.out rfl
 obtain ⟨hgd,hwd⟩:=mbegin_good hck (fewI_mem hsm)
 obtain ⟨m0,hm0⟩:∃ m0,m0=mbegin P l:=⟨_,rfl⟩
 have hp0:m0.p=P:=by rw [hm0];rfl
 rw [← hm0] at HQ hs hgd hwd
 have HY:=hU (hs.below HR.out)
 have HV:=hU hv
 obtain ⟨k,hk⟩:∃ k,k=(most 300 n).toNat:=⟨_,rfl⟩
 have hk3:k≤300:=by rw [hk];unfold most;split <;> omega
 have HRU:=hU (fun W hy ht=> HRun y m0 0 k (most 300 n) W hy hgd hwd hk (by omega) ht)
 have HG:=hU (hgd.run hwd (k:=k) (by omega))
 have HM:=hU (show (mrun k m0).p=P by rw [mrun_p];exact hp0)
 have HM0:=hU hm0
 have HWI:=hU (show Wire (mrun k m0) from Wire.run (by rw [hm0];exact Wire.begin) hgd hwd (by omega))
 clear hck hs hv hgd hwd HGO hm0 hp0 HR hsm hk
 refine wp_region_noPanic ?_
 refine go0 (S:=fun W=> W.heap[b5]? =some (.cells (ycells y m0) 61 (0,0))) [4] HQ.out fun hS=> ?_
 obtain ⟨Wd,hWd⟩:=exW Wn.drew
 have hbd:=dW hWd
 replace HP:=nB hbd HP
 replace HQ:=nB hbd HQ
 replace HY:=hU (HY.out.below hbd)
 replace HB:=nW hbd HB
 rw [hWd] at hS ⊢
 clear hWd hbd
 refine tv 0 (.agg (ycells y m0)) (fun W hSW=> run_val_load rfl rfl (run_load_whole aggSys hSW rfl)) ?_;(try simp only [acts])
 refine tp 1 ?_;(try simp only [acts])
 refine ro 2 fun K hK=> ?_
 refine want rfl ?_
 go_simp
 refine (HMost n _).mono ?_
 rintro er Wx ⟨rfl,rfl⟩
 dsimp only
 refine nx hK hS fun hS=> ?_
 clear hK K hS
 (try simp only [acts])
 refine ro 3 fun K hK=> ?_
 refine want rfl ?_
 go_simp
 refine (HRU.out _ HY.out (HT.out _ HB.out)).mono ?_
 rintro er Wn ⟨y1,rfl,hs,hv,hb⟩
 obtain ⟨m1,hm1⟩:∃ m1,mrun k m0=m1:=⟨_,rfl⟩
 rw [hm1] at HG HM hs ⊢
 replace HP:=nB hb HP
 replace HQ:=nB hb HQ
 replace HB:=nW hb HB
 replace HY:=hU hs
 have HON:=hU (onesY hs)
 have HV1:Hid (y1.vp=vp∧y1.vw=.slice aw P.ws.length cw∧y1.vc=vc):=hU ⟨hv.1.trans HV.out.1,hv.2.1.trans HV.out.2.1,hv.2.2.1.trans HV.out.2.2.1⟩
 have HPM:Hid (∀ W,Below w.heap.size w W→PlanR W y1.vp y1.vw y1.vc m1.p):=hU (by rw [HV1.out.1,HV1.out.2.1,HV1.out.2.2,HM.out];exact HPL.out)
 have HM1:=hU hm1
 clear hb hs hv HRU hm1 HV
 dsimp only
 refine nx hK HQ.out fun hS=> ?_
 clear hK K hS
 (try simp only [acts])
 refine ro 4 fun K hK=> ?_
 refine want rfl ?_
 refine wp_store (v:=.agg (ycells y1 m1)) (off:=0) (new:=ycells y1 m1) rfl rfl rfl aggSys.size HQ.out rfl (show 0 + 11≤11 by decide) HON.out rfl ?_
 intro Wn hp
 have hB:=Below.put HB.out hp (by omega)
 replace HY:=hU (HY.out.put HQ.out hp (HPM.out _ hB) noSys (by decide) (by decide) (by decide))
 replace HP:=pO hp HP
 replace HQ:=pA hp
 replace HB:=hU hB
 clear hB hp HON
 refine nt hK ?_
 clear hK K
 (try simp only [acts])
 refine doneL (by kernel_rfl) (NoPanic.normal ?_) _
 have hwi:=HWI.out
 rw [HM1.out] at hwi
 have HWR:=hU hwi
 have hl1:y1.ls.length=m1.seats.length:=HY.out.len.1
 have hal:m1.arr.length=m1.seats.length:=HG.out.1.al.trans HG.out.1.sl.symm
 have hl2:y1.la.length=m1.seats.length:=HY.out.len.2.trans hal
 have hmx:m1.seats.length≤4:=by rw [HG.out.1.sl];exact (Pl.check_zero HG.out.1.ck).2.1
 obtain ⟨a8,cp8,hse8,_,_⟩:=HY.out.se.1.shape
 rw [hl1] at hse8
 obtain ⟨a9,cp9,hse9,_,_⟩:=HY.out.ar.1.shape
 rw [hl2] at hse9
 have HSE8:=hU hse8
 have HSE9:=hU hse9
 have HAL:=hU hal
 have c8:Wn.cell? ⟨b5,8,none⟩=some (.slice a8 m1.seats.length cp8):=(hcell HQ.out 8).trans (congrArg some hse8)
 have c9:Wn.cell? ⟨b5,9,none⟩=some (.slice a9 m1.seats.length cp9):=(hcell HQ.out 9).trans (congrArg some hse9)
 have e0:((m1.seats.length:Int) !=(m1.seats.length:Int))=false:=by simp
 clear hse8 hse9 hl1 hl2 hal hwi HWI HG HM HM1 HP HPM HPL
 refine sg ?_;intros
 clear c8 c9 e0
 obtain ⟨Wo,rfl⟩:∃ Wo,Wo=Wn:=⟨_,rfl⟩
 go_loopw [11] (fun iv wr=> StmR Wo m1.seats.length iv wr) (fun iv _=> m1.seats.length - (intOf iv).toNat)
 case atStart=> exact ⟨0,Nat.zero_le _,rfl,hU (Below.refl _ _)⟩
 case round=>
  obtain ⟨i,hi,rfl,HW⟩:=hrel
  obtain ⟨Wn,rfl⟩:∃ Wn,Wn=wr:=⟨_,rfl⟩
  replace HQ:=nB HW.out HQ
  replace HY:=hU (HY.out.below HW.out)
  replace HB:=nW HW.out HB
  have c9:Wn.cell? ⟨b5,9,none⟩=some (.slice a9 m1.seats.length cp9):=(hcell HQ.out 9).trans (congrArg some HSE9.out)
  by_cases hil:i<m1.seats.length
  · have e1:decide ((i:Int)<(m1.seats.length:Int))=true:=by simp;omega
    have i0:(0:Int)≤(i:Int):=by omega
    have i1:(i:Int)<(m1.seats.length:Int):=by omega
    have e4:IntKind.i64.wrap ((i:Int) + 1)=(i:Int) + 1:=by rw [IntKind.wrap_i64];omega
    obtain ⟨s8,hs8⟩:∃ s,m1.seats[i]? =some s:=⟨_,List.getElem?_eq_getElem hil⟩
    obtain ⟨aa,haa⟩:∃ a,m1.arr[i]? =some a:=⟨_,List.getElem?_eq_getElem (by rw [HAL.out];exact hil)⟩
    obtain ⟨hst1,hst2⟩:=HWR.out.st i s8 aa hs8 haa
    rw [← (HWR.out.ch i s8 hs8).2] at hst1
    have HST1:=hU hst1
    have HST2:=hU hst2
    clear hst1 hst2
    obtain ⟨x8,hx8,hxs8,hl8⟩:=HY.out.seat hs8
    have hel8:=HY.out.se.1
    rw [HSE8.out] at hel8
    obtain ⟨g8,off8,hga8,hgl8,hc8⟩:=hel8.elem.2.2.2 i x8 hx8
    subst hga8
    have HCK8:Hid (∀ W,Below Wn.heap.size Wn W→∀ j u,(kcells x8.y s8.k)[j]? =some u→W.cell? ⟨g8,off8 + i * 19 + j,none⟩=some u):=hU (fun W hb j u hj=> hc8 W hb j u (by
     rw [show SB.cells x8=scells x8.y s8 by unfold SB.cells;rw [hxs8]]
     exact scells_at hj))
    have HL8:Hid (LayAt Wn x8.y x8.bs s8.k):=hU hl8
    obtain ⟨t8,tc8,htr8,_,_⟩:=HL8.out.tr.shape
    have HTR8:=hU htr8
    have hgb8:g8<Wn.heap.size:=hgl8
    clear hx8 hxs8 hl8 hel8 hgl8 hc8 htr8
    obtain ⟨ai,ci,hai,_,_⟩:=HL8.out.ins_.shape
    have hie:=HL8.out.ins_
    rw [hai] at hie
    have HAI:=hU hai
    have HIE:=hU hie.elem.2.2.2
    obtain ⟨xa,hxa,hxal⟩:∃ xa,y1.la[i]? =some xa∧xa.l=aa:=by
     have h0:=haa
     rw [← HY.out.al,List.getElem?_map] at h0
     exact Option.map_eq_some_iff.1 h0
    have hSl:=HY.out.ar.2 xa (List.mem_of_getElem? hxa)
    rw [hxal] at hSl
    obtain ⟨va,ca,hva,hca1,hca2⟩:=hSl.shape
    rw [hva] at hSl
    have HSA:=hU hSl.elem.2.2.2
    have hel:=HY.out.ar.1
    rw [HSE9.out] at hel
    obtain ⟨g9,off9,hga9,hgl9,hc9⟩:=hel.elem.2.2.2 i xa hxa
    subst hga9
    have HC9:Hid (∀ W,Below Wn.heap.size Wn W→W.cell? ⟨g9,off9 + i,none⟩=some (.slice va aa.length ca)):=hU (fun W hb=> by
     have h0:W.cell? ⟨g9,off9 + i * 1 + 0,none⟩=some xa.v:=hc9 W hb 0 _ rfl
     rw [hva] at h0
     simpa using h0)
    clear hel hc9 hSl hxa hxal hva hgl9 hie hai hs8 haa HL8 HTR8 HY HWR HAL
    refine sg ?_;intros
    clear c9
    obtain ⟨Wi,rfl⟩:∃ Wi,Wi=Wn:=⟨_,rfl⟩
    go_loopw [12] (fun kv wr=> StmR Wi aa.length kv wr) (fun kv _=> aa.length - (intOf kv).toNat)
    case atStart=> exact ⟨0,Nat.zero_le _,rfl,hU (Below.refl _ _)⟩
    case round=>
     obtain ⟨k2,hk2,rfl,HV⟩:=hrel
     obtain ⟨Wn,rfl⟩:∃ Wn,Wn=wr:=⟨_,rfl⟩
     replace HQ:=nB HV.out HQ
     replace HB:=nW HV.out HB
     have c9:Wn.cell? ⟨b5,9,none⟩=some (.slice (some ⟨g9,off9,none⟩) m1.seats.length cp9):=(hcell HQ.out 9).trans (congrArg some HSE9.out)
     have d9:=HC9.out Wn HV.out
     by_cases hkl:k2<aa.length
     · have f1:decide ((k2:Int)<(aa.length:Int))=true:=by simp;omega
       have k0:(0:Int)≤(k2:Int):=by omega
       have k1:(k2:Int)<(aa.length:Int):=by omega
       have f4:IntKind.i64.wrap ((k2:Int) + 1)=(k2:Int) + 1:=by rw [IntKind.wrap_i64];omega
       obtain ⟨x,hx⟩:∃ x,aa[k2]? =some x:=⟨_,List.getElem?_eq_getElem hkl⟩
       obtain ⟨t1,t2,ch,hch,t3⟩:=HST1.out x (List.mem_of_getElem? hx)
       obtain ⟨gs,offs,rfl,_,hcs⟩:=HSA.out k2 x hx
       have HCE:=hU (hcs Wn HV.out)
       obtain ⟨pn,hpn⟩:∃ pn:Nat,x.port=pn:=⟨x.port.toNat,by omega⟩
       rw [hpn,Int.toNat_natCast] at hch
       obtain ⟨gi,offi,hgi,_,hci⟩:=HIE.out pn ch hch
       subst hgi
       have hpl:pn<s8.k.ins_.length:=(List.getElem?_eq_some_iff.1 hch).1
       have hprev:∃ z:Stamp,∃ k3:Nat,0<k2→aa[k3]? =some z∧k2=k3 + 1∧z.at_≤x.at_:=by
        by_cases h:0<k2
        · obtain ⟨z,hz⟩:∃ z,aa[k2 - 1]? =some z:=⟨_,List.getElem?_eq_getElem (by omega)⟩
          refine ⟨z,k2 - 1,fun _=> ⟨hz,by omega,?_⟩⟩
          obtain ⟨z1,z2⟩:=List.getElem?_eq_some_iff.1 hz
          obtain ⟨x1,x2⟩:=List.getElem?_eq_some_iff.1 hx
          rw [← z2,← x2]
          exact List.pairwise_iff_getElem.1 HST2.out _ _ z1 x1 (by omega)
        · exact ⟨x,0,fun h'=> absurd h' h⟩
       obtain ⟨z,k3,hz⟩:=hprev
       have HZ:=hU hz
       have HHP:=hU hpn
       have q1:decide (s8.k.now<x.at_)=false:=by simp;omega
       have q4:decide ((pn:Int)<0)=false:=by simp
       have q5:decide ((s8.k.ins_.length:Int)≤(pn:Int))=false:=by simp;omega
       have q7:decide (s8.k.ins_.length≤pn)=false:=by simp;omega
       have q6:decide (ch.size<(x.body.size:Int))=false:=by simp;omega
       have p0:(0:Int)≤(pn:Int):=by omega
       have p1:(pn:Int)<(s8.k.ins_.length:Int):=by omega
       have HON:=hU (onesStampH x)
       obtain ⟨b7,hab7,hbz7⟩:=nbz HB
       have hb57:=nlt HQ hab7
       obtain ⟨W7,hW7,hba7,HZ7⟩:=nb1 (W:=Wn) (.cells #[.int .u64 0,.int .i64 0,.string ⟨#[]⟩] 96) hab7
       have hprev:=HZ.out
       clear hx hch t1 t2 t3 hz hpn hpl hkl HZ
       by_cases hkz:0<k2
       case' pos=>
        obtain ⟨hz1,hz2,hz3⟩:=hprev hkz
        obtain ⟨_,_,he,_,hcz⟩:=HSA.out k3 z hz1
        injection he with he
        injection he with eg eo
        subst eg eo
        have q2:decide (0<(k2:Int))=true:=by simp;omega
        have q3:decide (x.at_<z.at_)=false:=by simp;omega
        have f5:IntKind.i64.wrap ((k2:Int) - 1)=(k3:Int):=by rw [IntKind.wrap_i64];omega
        have n0:(0:Int)≤(k3:Int):=by omega
        have n1:(k3:Int)<(aa.length:Int):=by omega
       case' neg=> have q2:decide (0<(k2:Int))=false:=by simp;omega
       all_goals clear hprev
       case' pos=> clear hz1 hz2 hz3
       all_goals repeat' (first
        |(rw [hW7,hab7];clear hW7)
        |(refine wpList_load (t:=96) (v:=.agg (Stamp.cells x)) rfl rfl rfl (run_load_arr aggStampH rfl HCE.out) ?_)
        |(refine sN 96 (.agg (Stamp.cells x)) 0 (Stamp.cells x) aggStampH.size HZ7.out HON.out fun Wn hp=> ?_
          have hbb:=Below.put hba7 hp (Nat.le_of_eq hab7)
          replace HQ:=nB hbb HQ
          replace HV:=hU (HV.out.trans (hbb.mono HV.out.size))
          replace HB:=nW hbb HB
          have HX:=pA hp
          have x0:Wn.cell? ⟨b7,0,none⟩=some (.int .u64 x.at_):=hcell HX.out 0
          have x1:Wn.cell? ⟨b7,1,none⟩=some (.int .i64 pn):=by rw [← HHP.out];exact hcell HX.out 1
          have x2:Wn.cell? ⟨b7,2,none⟩=some (.string x.body):=hcell HX.out 2
          have c8:Wn.cell? ⟨b5,8,none⟩=some (.slice (some ⟨g8,off8,none⟩) m1.seats.length cp8):=(hcell HQ.out 8).trans (congrArg some HSE8.out)
          have c9:Wn.cell? ⟨b5,9,none⟩=some (.slice (some ⟨g9,off9,none⟩) m1.seats.length cp9):=(hcell HQ.out 9).trans (congrArg some HSE9.out)
          have d9:=HC9.out Wn HV.out
          have d7:Wn.cell? ⟨g8,off8 + i * 19 + 7,none⟩=some (.int .u64 s8.k.now):=HCK8.out Wn HV.out 7 _ rfl
          have d10:Wn.cell? ⟨g8,off8 + i * 19 + 10,none⟩=some (.slice (some ⟨gi,offi,none⟩) s8.k.ins_.length ci):=(HCK8.out Wn HV.out 10 _ rfl).trans (congrArg some HAI.out)
          have i3:Wn.cell? ⟨gi,offi + pn * 5 + 3,none⟩=some (.int .i64 ch.size):=hci Wn HV.out 3 _ rfl
          try (have z0:Wn.cell? ⟨gs,offs + k3 * 3,none⟩=some (.int .u64 z.at_):=hcz Wn HV.out 0 _ rfl)
          clear hbb hp hba7 HZ7 HON)
        |go_values|go_skip|go_guarded|refine wg ?_|go_step|go_upon)
       all_goals simp only [List.append_eq,List.cons_append,List.nil_append]
       all_goals refine wp_region_noPanic ?_
       refine go0 (S:=fun W=> W.cell? ⟨b7,0,none⟩=some (.int .u64 x.at_)∧W.cell? ⟨b7,1,none⟩=some (.int .i64 pn)∧W.cell? ⟨b7,2,none⟩=some (.string x.body)∧W.cell? ⟨b5,8,none⟩=some (.slice (some ⟨g8,off8,none⟩) m1.seats.length cp8)∧W.cell? ⟨b5,9,none⟩=some (.slice (some ⟨g9,off9,none⟩) m1.seats.length cp9)∧W.cell? ⟨g9,off9 + i,none⟩=some (.slice (some ⟨gs,offs,none⟩) aa.length ca)∧W.cell? ⟨g8,off8 + i * 19 + 7,none⟩=some (.int .u64 s8.k.now)∧W.cell? ⟨g8,off8 + i * 19 + 10,none⟩=some (.slice (some ⟨gi,offi,none⟩) s8.k.ins_.length ci)∧W.cell? ⟨gi,offi + pn * 5 + 3,none⟩=some (.int .i64 ch.size)∧W.cell? ⟨gs,offs + k3 * 3,none⟩=some (.int .u64 z.at_)) [] (⟨x0,x1,x2,c8,c9,d9,d7,d10,i3,z0⟩) fun hS=> ?_
       refine ts [.p 0,.l 1,.p 2,.l 3,.p 4,.p 5,.p 6,.p 7,.l 8,.p 9,.p 10,.p 11,.p 12,.p 13,.p 14,.l 15,.p 16,.p 17,.l 18,.p 19,.p 20,.p 21,.p 22,.l 23,.p 24,.l 25,.p 26,.p 27,.p 28,.p 29,.p 30,.l 31,.p 32,.p 33,.p 34,.p 35,.l 36,.p 37,.l 38,.p 39,.p 40,.p 41,.p 42,.l 43,.p 44,.p 45,.p 46,.p 47,.p 48,.l 49,.p 50,.p 51,.l 52,.p 53,.p 54,.p 55,.p 56,.l 57,.p 58,.l 59,.p 60,.p 61,.l 62,.p 63,.p 64] ?_
       rotate_left 1
       refine go0 (S:=fun W=> W.cell? ⟨b7,0,none⟩=some (.int .u64 x.at_)∧W.cell? ⟨b7,1,none⟩=some (.int .i64 pn)∧W.cell? ⟨b7,2,none⟩=some (.string x.body)∧W.cell? ⟨b5,8,none⟩=some (.slice (some ⟨g8,off8,none⟩) m1.seats.length cp8)∧W.cell? ⟨b5,9,none⟩=some (.slice (some ⟨g9,off9,none⟩) m1.seats.length cp9)∧W.cell? ⟨g9,off9 + i,none⟩=some (.slice (some ⟨gs,offs,none⟩) aa.length ca)∧W.cell? ⟨g8,off8 + i * 19 + 7,none⟩=some (.int .u64 s8.k.now)∧W.cell? ⟨g8,off8 + i * 19 + 10,none⟩=some (.slice (some ⟨gi,offi,none⟩) s8.k.ins_.length ci)∧W.cell? ⟨gi,offi + pn * 5 + 3,none⟩=some (.int .i64 ch.size)) [] (⟨x0,x1,x2,c8,c9,d9,d7,d10,i3⟩) fun hS=> ?_
       refine ts [.p 0,.l 1,.p 2,.l 3,.p 4,.p 5,.p 6,.p 7,.l 8,.p 9,.p 10,.p 11,.p 12,.p 13,.n 14,.n 15,.n 16,.n 17,.n 18,.n 19,.n 20,.n 21,.n 22,.n 23,.n 24,.n 25,.n 26,.p 27,.p 28,.p 29,.p 30,.l 31,.p 32,.p 33,.p 34,.p 35,.l 36,.p 37,.l 38,.p 39,.p 40,.p 41,.p 42,.l 43,.p 44,.p 45,.p 46,.p 47,.p 48,.l 49,.p 50,.p 51,.l 52,.p 53,.p 54,.p 55,.p 56,.l 57,.p 58,.l 59,.p 60,.p 61,.l 62,.p 63,.p 64] ?_
       all_goals refine doneL (by kernel_rfl) (NoPanic.normal ?_) _
       all_goals clear hS
       all_goals repeat' (first|go_values|go_skip|go_guarded|refine wg ?_|go_step|go_upon)
       all_goals exact ⟨⟨k2 + 1,by omega,by go_num,hU HV.out.drew⟩,by simp [intOf];omega⟩
     · obtain rfl:k2=aa.length:=by omega
       have f1:decide ((aa.length:Int)<(aa.length:Int))=false:=by simp
       refine sg ?_;intros
       exact ⟨⟨i + 1,by omega,by go_num,hU (HW.out.trans (HV.out.mono HW.out.size))⟩,by simp [intOf];omega⟩
  · obtain rfl:i=m1.seats.length:=by omega
    have e1:decide ((m1.seats.length:Int)<(m1.seats.length:Int))=false:=by simp
    refine sg ?_;intros
    go_ret
    exact gives_of rfl HB.out
end Hy
end Go.Proofs.YtbeakngieodlhaaGreatDoor
namespace Go.Proofs.YtbeakngieodlhaaGreatDoor.lawHyperStamps
open Go.ChangeShapes Go.WideShapes Go.ChangeAt Go.RowKit
theorem contract (H:Type) (enc:TypeId × Value→H) (W:World) (base:Nat) (args:Array Value) (ds gs:List (DataW H)) (before:List MemPlace)
 (hval:∀ (j:Nat) t v,Tryz.f12.params[j]? =some t→args[j]? =some v→Value.okWide Tryz.prog W .any base t v)
 (hW:DataW.Whole enc Tryz.prog Tryz.f12.params.toList Rows.hyperStampsSpec.vars false W args.toList ds gs before) (hL:laidMetH Tryz.prog Rows.hyperStampsRow.laid W)
 (hr:(DataW.weightsEach Tryz.prog (Tryz.f12.params.toList ++ (OpenSpec.ofChange Rows.hyperStampsSpec).bare.plain.varTypes Tryz.prog) (ds ++ gs)).all (· ≤reachBytes)=true):
 Calls Tryz.prog 12 args W fun e W'=> ∃ v,e=.returned v∧Rows.hyperStampsSpec.post enc Tryz.prog Tryz.f12 false true false false W args v W':=by
 have hW':=hW
 obtain ⟨p,q,hA0,hV,rfl,hfz,hnd⟩:=hW
 have hA:DataW.TrodAll enc Tryz.prog W 0 (fun _=> true) true Tryz.f12.params.toList args.toList ds p:=hA0
 rw [Tryz.params12] at hA hval
 obtain ⟨v0,v1,v2,d0,d1,d2,p0,p1,p2,rfl,rfl,rfl,h0,h1,h2⟩:=trodAll_three hA
 obtain ⟨rfl,rfl⟩:=trodVars_none hV
 obtain ⟨vp,vw,vc,P,rfl,hpl,hfr⟩:=Hy.open_planR (hval 0 53 v0 rfl rfl) h0
 obtain ⟨l,him,hwl⟩:=Hy.open_images (hval 1 54 v1 rfl rfl) h1
 have hsl:=Hy.img_small (j:=1) hr (by kernel_rfl) rfl hwl
 obtain ⟨n,rfl,rfl,rfl,wn⟩:=open_int Tryz.underlying3 (hval 2 3 v2 rfl rfl) h2
 refine (Hy.LHyperStamps vp vw vc v1 P l n W hpl hfr him hsl (tab_of hL)).mono fun e W' ⟨he,hb⟩=> ?_
 subst he
 exact ⟨_,rfl,law_post (tb:=4) hW' rfl rfl rfl rfl (by kernel_rfl) Tryz.underlying4 laid_outB (by rw [Tryz.params12];decide +kernel) hb⟩
abbrev zeros:Array Value:=#[.agg #[.slice none 0 0,.int .i64 0,.slice none 0 0,.slice none 0 0],.slice none 0 0,.int .i64 0]
theorem laid_met (os:Os):laidMet Tryz.prog Rows.hyperStampsRow.laid ((laidWorld os).forCall (fun _ _=> 0) ⟨#[],zeros,[]⟩).memory:=
 laidMet_of_run' 8 (by kernel_rfl) (by kernel_rfl)
theorem reads (os:Os) {H:Type} (enc:TypeId × Value→H):∃ places,DataW.whole enc Tryz.prog ((laidWorld os).forCall (fun _ _=> 0) ⟨#[],zeros,[]⟩).memory Tryz.f12.params.toList Rows.hyperStampsSpec.vars false zeros.toList 8=some ([.agg [.nil,.lit (.int .i64 0),.nil,.nil],.nil,.lit (.int .i64 0)],[],places):=
 ⟨[],by kernel_rfl⟩
theorem lifted (os:Os) (started:os.Started) (H:Type) (enc:TypeId × Value→H) (F:Stop.Interp):
 ReturnsInHanded {} Tryz.checked os 12 .any ((OpenSpec.ofChange Rows.hyperStampsSpec).preRow enc Tryz.prog Tryz.f12 Rows.hyperStampsRow.domain false Rows.hyperStampsRow.laid) (((OpenSpec.ofChange Rows.hyperStampsSpec).at F).post enc Tryz.prog Tryz.f12 false true false false):=by
 obtain ⟨places,hx⟩:=reads os enc
 refine returnsInHanded_of_row (C:=Tryz.checked) (s:=OpenSpec.ofChange Rows.hyperStampsSpec) own started (by kernel_rfl) Tryz.func12
  (witness_row_at (enc:=enc) (C:=Tryz.checked) false (laidWorld os) zeros rfl (by kernel_rfl) (by kernel_rfl) (by kernel_rfl)
    (OpenSpec.preRow_of_cond 8 hx (by kernel_rfl) (fun k hk=> by cases hk) (by kernel_rfl) (laid_met os))) ?_
 intro W base args ds gs before hval hW _ hcond hr hL _ _
 exact contract H enc W base args ds gs before hval hW hL hr
theorem j0:(Rows.hyperStampsRow.inPlace==Tryz.pinned.checked.prog.inPlace 12)=true:=by kernel_rfl
theorem j1:(Rows.hyperStampsRow.unfollowed==Tryz.pinned.checked.prog.unfollowed 12)=true:=by kernel_rfl
theorem j2:(Rows.hyperStampsRow.recurses==Tryz.pinned.checked.prog.recurses 12)=true:=by kernel_rfl
theorem j3:(Rows.hyperStampsRow.named==Tryz.pinned.checked.prog.varsNamed 12)=true:=by kernel_rfl
theorem facts:joinedFacts Tryz.pinned.checked.prog 12 Tryz.f12 (OpenSpec.ofChange Rows.hyperStampsSpec).bare Rows.hyperStampsRow=true:=by
 unfold joinedFacts
 rw [j0,j1,j2,j3]
 kernel_rfl
theorem said:Rows.HyperStampsSaid:=
 OpenClaim.holds_of_cond 12 Tryz.f12 rfl rfl rfl rfl rfl rfl rfl ⟨rfl,rfl,rfl,rfl,rfl⟩ rfl rfl rfl rfl rfl (by kernel_rfl) Tryz.func12 facts
  (of_decide_eq_true (by kernel_rfl)) (by unfold Func.isWrapper;first|(rw [if_pos (by decide +kernel)];kernel_rfl)|(rw [if_neg (by decide +kernel)];exact ⟨rfl,rfl⟩))
  (fun os started H enc _ F=> by rw [OpenClaim.pre_eq_preRow];exact lifted os started H enc F)
theorem plain (f:FuncId) (fn:Func) (hf:Tryz.pinned.checked.prog.funcNamed "transom/transomlaw16.HyperStamps" =some f) (hfn:Tryz.pinned.checked.prog.funcs[f]? =some fn):
 false=Tryz.pinned.checked.prog.looks []∧∀ (j:Nat) t,fn.params[j]? =some t→Tryz.pinned.checked.prog.wantsStandIn t=false:=by
 obtain rfl:f=12:=Option.some.inj ((show Tryz.prog.funcNamed "transom/transomlaw16.HyperStamps" =some 12 by kernel_rfl).symm.trans hf)|>.symm
 obtain rfl:fn=Tryz.f12:=(Option.some.inj (Tryz.func12.symm.trans hfn)).symm
 refine ⟨looks_off,fun j t ht=> ?_⟩
 have hm:=Array.mem_of_getElem? ht
 rw [Tryz.params12] at hm
 have hall:∀ t ∈ (#[53,54,3]:Array TypeId),Tryz.prog.wantsStandIn t=false:=by decide +kernel
 exact hall t hm
theorem card:Rows.HyperStampsCardSaid:=
 Claim7.holds_tied_plain_at .later [] _ _ _ _ said (fun _ h=> by cases h) (by kernel_rfl) (fun _ h=> by cases h) hyperStamps_row_tie rfl ⟨rfl,rfl⟩ (by kernel_rfl) rfl plain (by kernel_rfl)
#print axioms card
end Go.Proofs.YtbeakngieodlhaaGreatDoor.lawHyperStamps
