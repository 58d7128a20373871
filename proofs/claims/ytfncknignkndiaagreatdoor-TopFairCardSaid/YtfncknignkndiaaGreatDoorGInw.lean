/- What a guest's cycle keeps, in plain Lean: ends, new processes, calls, who wakes, a cycle, the beginning. Conditions: as told. -/
import Derived.Test.YtfncknignkndiaaGreatDoorGInv
set_option linter.unusedVariables false
set_option linter.unusedSimpArgs false
namespace Go.Proofs.YtfncknignkndiaaGreatDoor
namespace Kn
def Life (k:aI):Prop:=(k.gone=0∧k.p ≠ [])∨(k.gone ≠ 0∧k.p=[])
section
variable {D:List Int} {k k':aI} {p p':Proc}
theorem Inv.qUi (h:Inv [] k) (code why:Int):Inv [] (ends k 1 code why):=by
 have h0:eO k.hs []=true:=by
  have:=h.hr
  unfold eO at this ⊢;rw [Bool.and_eq_true] at this ⊢;exact ⟨rfl,this.2⟩
 unfold ends;rw [if_pos rfl];exact ⟨iW.nil,Nat.zero_le _,Keys.nil _,⟨show (0:Int)≤0 by decide,show (0:Int)≤5 by decide⟩,List.Pairwise.nil,Keys.nil _,h0,fun s hs=> (nomatch hs),Keys.nil _,⟨fun i q hq=> by simp at hq,Nat.zero_le _,fun n e _=> rfl⟩⟩
structure qUu (k:aI) (p:Proc) (k':aI):Prop where
 inv:Inv [] k'
 gone:k'.gone=k.gone
 oth:∀ q ∈ k.p,q.pid ≠ p.pid→∃ r ∈ k'.p,r.pid=q.pid∧r.st=q.st
 ne:k'.p ≠ []
theorem Inv.qJr (h:Inv [] k) (hp:p ∈ k.p) (hst:p.st ≠ 4) (hne:p.pid ≠ 1) (code why:Int):qUu k p (ends k p.pid code why):=by
 have hpos:=h.tab.pos p hp;obtain ⟨ht,hno⟩:=h.tab.dQ hne hpos;have hme:ado p.pid 1 p ∈ dQ k.p p.pid 1:=by rw [jG];exact List.mem_map_of_mem hp
 have hpar:(ado p.pid 1 p).par=p.par:=by
  unfold ado;rw [if_neg];rcases h.tab.par p hp with g|g <;> omega
 have hpid:=lA p.pid 1 p;have hu:put (dQ k.p p.pid 1) (over p code)=Kn.upd (dQ k.p p.pid 1) (over p code):=fW ht.so hme hpid
 have hf:((find (dQ k.p p.pid 1) p.par).map (fun q=> q.st==4)).getD true=false:=by
  rcases h.tab.par p hp with g|⟨_,_,q,hq,g3,g4⟩
  · exact absurd g.1 hne
  · have hqm:ado p.pid 1 q ∈ dQ k.p p.pid 1:=by rw [jG];exact List.mem_map_of_mem hq
    have:=ht.so.find hqm
    rw [lA,g3] at this;rw [this];show ((ado p.pid 1 q).st==4)=false
    rw [qAf];simp [g4]
 have he:ends k p.pid code why={k with aG:=eC k.aG p (-1),h:=gX k.h p.pid,t:=eZ k.t p.pid,s:=lY k.s p.pid,p:=Kn.upd (dQ k.p p.pid 1) (over p code)}:=by
  unfold ends;rw [if_neg hne,h.tab.so.find hp];dsimp only [Option.getD_some];rw [hf,hu];rfl
 have hov:∀ n e,1≤n→fdn (over p code) n e=0:=fun n e hn=> (show noFd (over p code) from ⟨rfl,rfl,rfl,rfl,rfl,rfl,rfl,rfl⟩).fdn hn e
 have hcnt:∀ n e,1≤n→cnt (Kn.upd (dQ k.p p.pid 1) (over p code)) n e=cnt k.p n e + (-1) * fdn p n e:=fun n e hn=> by
  rw [zP ht.so hme (p:=over p code) hpid,hov n e hn,qLh,qJs];omega
 rw [he];refine ⟨⟨?_,?_,?_,?_,?_,?_,?_,?_,?_,?_⟩,rfl,fun q hq hqp=> ?_,List.ne_nil_of_mem (lT hme (p:=over p code) hpid)⟩
 · refine ht.upd (p':=over p code) hme hpid.symm hpar.symm ⟨show (1:Int)≤4 by decide,show (4:Int)≤4 by decide⟩ (h.tab.mem p hp) ?_ (fun _=> ⟨⟨rfl,rfl,rfl,rfl,rfl,rfl,rfl,rfl⟩,by rw [hpid];exact hne,fun q hq=> by rw [hpid];exact hno q hq⟩);have w:=h.tab.wd p hp;exact ⟨w.rs,w.pc,w.wn,w.wa,w.wb,w.wc⟩
 · show (Kn.upd _ _).length≤6
   rw [tK,jG,List.length_map];exact h.n6
 · refine (h.tn.dQ p.pid 1).upd ht.so hme hpid.symm (qX h.tn.1 _) (fun i=> ?_);show i ∈ (eZ k.t p.pid).l↔_∨(_∧(4:Int)=1)
   rw [xN,hpid];simp;exact And.comm
 · exact tF h.tl _
 · exact qEs h.so _
 · have hal:=h.al;rw [List.append_nil] at hal;show Keys ((lY k.s p.pid).map (·.pid) ++ []) _ _
   rw [List.append_nil,qMo];refine (hal.dQ p.pid 1).upd ht.so hme hpid.symm (List.Pairwise.filter _ hal.1) (fun i=> ?_);show _↔_∨(_∧(4:Int)=3)
   rw [List.mem_filter,hpid];simp;exact And.comm
 · exact qGa h.hr _
 · exact fun s hs=> h.h64 s (List.mem_filter.1 hs).1
 · show Keys ((gX k.h p.pid).map (·.who)) _ _
   rw [qLu];refine (h.hp.dQ p.pid 1).upd ht.so hme hpid.symm (List.Pairwise.filter _ h.hp.1) (fun i=> ?_);show _↔_∨(_∧(4:Int) ≠ 4)
   rw [List.mem_filter,hpid];simp;exact And.comm
 · refine ⟨(h.po.ok.eC p (-1)).of (fun n e hn=> (hcnt n e hn).symm),by show (eC _ _ _).length≤4;rw [pB];exact h.po.n,fun n e hn=> ?_⟩;have hn:((eC k.aG p (-1)).length:Int)<n:=hn;rw [pB] at hn;have h0:=h.po.out n e hn;have h1:=qHn hp n e;have h2:=(oN p n e).1;show cnt (Kn.upd (dQ k.p p.pid 1) (over p code)) n e=0
   rw [hcnt n e (by omega)];omega
 · have hqm:ado p.pid 1 q ∈ dQ k.p p.pid 1:=by rw [jG];exact List.mem_map_of_mem hq
   exact ⟨ado p.pid 1 q,nK hqm (by rw [lA];exact hqp),lA _ _ _,qAf _ _ _⟩
structure sA (D:List Int) (k:aI) (k':aI):Prop where
 inv:Inv D k'
 gone:k'.gone=k.gone
 oth:∀ q ∈ k.p,q ∈ k'.p
 v:W32 (lD k)
 ne:fN k=0→k'.p ≠ []
theorem Inv.fresh (h:Inv D k) (hm:p.mem.size=64) (hw:lU p) (hpar:(k.p=[]∧p.par=0)∨∃ q ∈ k.p,q.pid=p.par∧q.st ≠ 4) (hfd:∀ n e,(k.aG.length:Int)<n→fdn p n e=0):sA D k (Kn.fresh k p):=by
 have hv:W32 (lD k):=by
  unfold lD;split
  · exact jV
  · split
    · exact oB _
    · exact jV
 unfold Kn.fresh;split
 · next h6=> exact ⟨h,rfl,fun q hq=> hq,hv,fun he=> by unfold fN at he;rw [if_pos h6] at he;exact absurd he (by decide)⟩
 · next h6=>
   split
   · next h0=>
     obtain ⟨a,hperm,hri⟩:=qLw h0;have hgt:=qKa k.p;have hpn:put k.p (born p (next k.p))=k.p ++ [born p (next k.p)]:=qEo hgt
     have hout:next k.p ∉ k.h.map (·.who):=fun hi=> by
      obtain ⟨q,hq,h1,_⟩:=(h.hp.2 _).1 hi;have:=hgt q hq
      omega
     have hpw:((fO k.hs k.h 64 (next k.p)).1.map (·.who)).Perm (next k.p::k.h.map (·.who)):=hperm.map _
     have hcnt:∀ n e,cnt (put k.p (born p (next k.p))) n e=cnt k.p n e + 1 * fdn p n e:=fun n e=> by
      rw [hpn,qSb,jI,qSc];show cnt k.p n e + (fdn p n e + 0)=_
      omega
     refine ⟨⟨?_,?_,?_,xM h.tl _,h.so,?_,hri,?_,?_,?_⟩,rfl,fun q hq=> ?_,hv,fun _=> ?_⟩
     · show iW (put k.p (born p (next k.p)))
       rw [hpn];refine h.tab.app (p:=born p (next k.p)) hgt rfl hm ⟨hw.rs,hw.pc,jV,jV,jV,jV⟩ ?_;rcases hpar with ⟨g1,g2⟩|g
       · exact .inl ⟨by show next k.p=1;rw [g1];rfl,g2⟩
       · exact .inr g
     · show (put k.p (born p (next k.p))).length≤6
       rw [hpn,List.length_append,List.length_singleton];omega
     · show Keys (iE k.t (next k.p)).l (put k.p (born p (next k.p))) _
       rw [hpn];refine h.tn.more (p:=born p (next k.p)) hgt (tE h.tn.1 _) (fun i=> ?_);rw [qBi];show _↔_∨(i=next k.p∧(1:Int)=1)
       simp
     · show Keys _ (put k.p (born p (next k.p))) _
       rw [hpn];refine h.al.more (p:=born p (next k.p)) hgt h.al.1 (fun i=> ?_);show _↔_∨(_∧(1:Int)=3)
       simp
     · intro s hs;rcases List.mem_cons.1 (hperm.mem_iff.1 hs) with rfl|hs
       · rfl
       · exact h.h64 s hs
     · show Keys _ (put k.p (born p (next k.p))) _
       rw [hpn];refine h.hp.more (p:=born p (next k.p)) hgt (hpw.nodup_iff.2 (List.nodup_cons.2 ⟨hout,h.hp.1⟩)) (fun i=> ?_);rw [hpw.mem_iff,List.mem_cons];show _↔_∨(i=next k.p∧(1:Int) ≠ 4)
       rw [Or.comm];simp
     · refine ⟨(h.po.ok.eC p 1).of (fun n e hn=> (hcnt n e).symm),by show (eC _ _ _).length≤4;rw [pB];exact h.po.n,fun n e hn=> ?_⟩;have hn:((eC k.aG p 1).length:Int)<n:=hn;rw [pB] at hn;show cnt (put k.p (born p (next k.p))) n e=0
       rw [hcnt,h.po.out n e hn,hfd n e hn];rfl
     · show q ∈ put k.p (born p (next k.p))
       rw [hpn];exact List.mem_append_left _ hq
     · show put k.p (born p (next k.p)) ≠ []
       rw [hpn];simp
   · next hc=> exact ⟨h,rfl,fun q hq=> hq,hv,fun he=> by unfold fN at he;rw [if_neg h6] at he;exact absurd he hc⟩
theorem qIb {n:Int} {s:ByteArray} (h:Sg.uG n s=0):((Sg.qCv n s).size:Int)=n:=by
 unfold Sg.uG at h;unfold Sg.qCv;split at h
 · exact absurd h (by decide)
 · split at h
   · exact absurd h (by decide)
   · rw [if_pos (by omega)];have e:(ByteArray.mk (s.data.toList ++ List.replicate (n - s.size).toNat 0).toArray).size=(s.data.toList ++ List.replicate (n - s.size).toNat 0).length:=List.size_toArray;have e2:s.data.toList.length=s.size:=Array.length_toList;rw [e,List.length_append,List.length_replicate,e2];omega
theorem nQ {n:Int} (h:dA k n=0):(eG k n).size=64:=by
 unfold dA at h;unfold eG;split at h
 · have:=qIb h
   omega
 · exact absurd h (by decide)
theorem sK:lU Proc.zero:=⟨⟨rfl,fun x hx=> by simp [Proc.zero] at hx;omega⟩,jV,jV,jV,jV,jV⟩
theorem qFc {p:Proc} (h:noFd p) (n:Int) (e:Bool) (hn:1≤n):fdn p n e=0:=h.fdn hn e
structure qFd (k:aI) (p:Proc) (k':aI):Prop where
 inv:Inv [] k'
 life:(k'.gone=k.gone∧k'.p ≠ [])∨(k'.gone ≠ 0∧k'.p=[])
theorem Inv.asked (h:Inv [] k) (hp:p ∈ k.p) (hk:uT p' p) (h1:p.st=1) {v e:Int} (hv:W32 v) (x:Call):qFd k p (Kn.answer k p' x v e):=
 ⟨h.answer hp hk h1 hv x,.inl ⟨rfl,by show put k.p (back p' v e) ≠ [];rw [fW (p:=back p' v e) h.tab.so hp (show p.pid=p'.pid from hk.pid.symm)];exact List.ne_nil_of_mem (lT (p:=back p' v e) hp (show p.pid=p'.pid from hk.pid.symm))⟩⟩
theorem Inv.want (h:Inv D k) (n:Int):Inv D {k with want:=n}:=h.same rfl rfl rfl rfl rfl rfl
theorem qFd.t {t:jM} (h:qFd k p k') (ht:t.l.Perm k'.t.l) (hl:0≤t.left∧t.left≤5):qFd k p {k' with t:=t}:=
 ⟨⟨h.inv.tab,h.inv.n6,h.inv.tn.perm ht,hl,h.inv.so,h.inv.al,h.inv.hr,h.inv.h64,h.inv.hp,h.inv.po⟩,h.life⟩
theorem qBl (k:aI) (p:Proc) (x:Call) (C:iA→Prop) (h0:∀ v e,C ⟨k,v,e⟩) (hw:∀ i v e,C ⟨{k with p:=remove k.p i},v,e⟩) (hc:∀ s v e,C ⟨{k with cons:=s},v,e⟩) (hq:∀ pi v e,C ⟨{k with aG:=pi},v,e⟩) (hp:∀ pi p' v e,p'.pid=p.pid→C ⟨{k with aG:=pi,p:=put k.p p'},v,e⟩)
 (hs:∀ l v e,C ⟨{k with sent:=l},v,e⟩) (hr:∀ b p' v e,p'.pid=p.pid→C ⟨{k with box:=b,p:=put k.p p'},v,e⟩):C (aW k p x):=by
 have s:=fun p a d e=> (nY p a d e).1;unfold aW;split
 · unfold wait;split
   · exact hw _ _ _
   · split <;> exact h0 _ _
 split
 · exact h0 _ _
 split
 · exact h0 _ _
 split
 · exact hc _ _ _
 split
 · unfold aG;split
   · exact h0 _ _
   · split
     · exact h0 _ _
     · split
       · exact h0 _ _
       · exact hp _ _ _ _ ((s _ _ _ _).trans (s _ _ _ _))
 split
 · unfold writes;split
   · exact h0 _ _
   · split
     · exact h0 _ _
     · dsimp only;split
       · exact h0 _ _
       · exact hq _ _ _
 split
 · unfold reads;split
   · exact h0 _ _
   · split
     · exact h0 _ _
     · dsimp only;split
       · exact h0 _ _
       · exact hp _ _ _ _ rfl
 split
 · unfold gM;split
   · exact h0 _ _
   · exact hp _ _ _ _ (s _ _ _ _)
 split
 · unfold gZ;split
   · exact h0 _ _
   · split
     · exact h0 _ _
     · split
       · exact h0 _ _
       · exact hs _ _ _
 split
 · unfold mH;split
   · split
     · exact h0 _ _
     · split
       · exact h0 _ _
       · split
         · exact h0 _ _
         · exact hr _ _ _ _ rfl
   · exact h0 _ _
 · exact h0 _ _
theorem jU (k:aI) (p:Proc) (x:Call):(aW k p x).k.gone=k.gone∧(aW k p x).k.t=k.t∧(aW k p x).k.s=k.s∧(aW k p x).k.now=k.now∧(aW k p x).k.images=k.images∧(aW k p x).k.outs=k.outs∧(aW k p x).k.ins_=k.ins_∧(aW k p x).k.hs=k.hs∧(aW k p x).k.want=k.want:=
 qBl k p x (fun r=> r.k.gone=k.gone∧r.k.t=k.t∧r.k.s=k.s∧r.k.now=k.now∧r.k.images=k.images∧r.k.outs=k.outs∧r.k.ins_=k.ins_∧r.k.hs=k.hs∧r.k.want=k.want)
  (fun _ _=> ⟨rfl,rfl,rfl,rfl,rfl,rfl,rfl,rfl,rfl⟩) (fun _ _ _=> ⟨rfl,rfl,rfl,rfl,rfl,rfl,rfl,rfl,rfl⟩) (fun _ _ _=> ⟨rfl,rfl,rfl,rfl,rfl,rfl,rfl,rfl,rfl⟩) (fun _ _ _=> ⟨rfl,rfl,rfl,rfl,rfl,rfl,rfl,rfl,rfl⟩) (fun _ _ _ _ _=> ⟨rfl,rfl,rfl,rfl,rfl,rfl,rfl,rfl,rfl⟩)
  (fun _ _ _=> ⟨rfl,rfl,rfl,rfl,rfl,rfl,rfl,rfl,rfl⟩) (fun _ _ _ _ _=> ⟨rfl,rfl,rfl,rfl,rfl,rfl,rfl,rfl,rfl⟩)
theorem qBj (k:aI) (p:Proc) (x:Call):(aW k p x).k.gone=k.gone:=(jU k p x).1
theorem gQ {l:List Proc} (hs:eJ l) {q:Proc} (hq:q ∈ l) {pid:Int} (he:q.pid=pid):find l pid=some q:=by rw [← he];exact hs.find hq
theorem qHa {k:aI} {p:Proc} {x:Call} (h:(aW k p x).e=6) (hn:x.n ≠ 16):(aW k p x).k=k:=by
 have h6:∀ {e:Int} {P:Prop},e=6→e ≠ 6→P:=fun a b=> absurd a b;unfold aW at h ⊢;split
 · rename_i hc;rw [if_pos hc] at h;unfold wait at h ⊢;split
   · rename_i q hd;rw [hd] at h;exact absurd (show (0:Int)=6 from h) (by decide)
   · split <;> rfl
 rename_i hc;rw [if_neg hc] at h;split
 · rfl
 rename_i hc;rw [if_neg hc] at h;split
 · rfl
 rename_i hc;rw [if_neg hc] at h;split
 · rename_i hc;rw [if_pos hc] at h;exact absurd (show (0:Int)=6 from h) (by decide)
 rename_i hc;rw [if_neg hc] at h;split
 · rename_i hc;rw [if_pos hc] at h;unfold aG at h ⊢;split
   · rfl
   · rename_i l n hm;rw [hm] at h;dsimp only at h;split
     · rfl
     · rename_i a hfa;rw [hfa] at h;dsimp only at h;split
       · rfl
       · rename_i b hfb;rw [hfb] at h;exact absurd (show (0:Int)=6 from h) (by decide)
 rename_i hc;rw [if_neg hc] at h;split
 · rename_i hc;rw [if_pos hc] at h;unfold writes at h ⊢;split
   · rfl
   · rename_i c1;rw [if_neg c1] at h;split
     · rfl
     · rename_i c2;rw [if_neg c2] at h;dsimp only at h ⊢;split
       · rfl
       · rename_i c3;rw [if_neg c3] at h;exact absurd (show (0:Int)=6 from h) (by decide)
 rename_i hc;rw [if_neg hc] at h;split
 · rename_i hc;rw [if_pos hc] at h;unfold reads at h ⊢;split
   · rfl
   · rename_i c1;rw [if_neg c1] at h;split
     · rfl
     · rename_i c2;rw [if_neg c2] at h;dsimp only at h ⊢;split
       · rfl
       · rename_i c3;rw [if_neg c3] at h;exact absurd (show (0:Int)=6 from h) (by decide)
 rename_i hc;rw [if_neg hc] at h;split
 · rename_i hc;rw [if_pos hc] at h;unfold gM at h ⊢;split
   · rfl
   · rename_i c1;rw [if_neg c1] at h;exact absurd (show (0:Int)=6 from h) (by decide)
 rename_i hc;rw [if_neg hc] at h;split
 · rename_i hc;rw [if_pos hc] at h;unfold gZ at h ⊢;split
   · rfl
   · rename_i c hcc;rw [hcc] at h;dsimp only at h;split
     · rfl
     · rename_i c2;rw [if_neg c2] at h;split
       · rfl
       · rename_i c3;rw [if_neg c3] at h;exact absurd (show (0:Int)=6 from h) (by decide)
 rfl
theorem nC {pid:Int} {x:Call} (h:eM k pid x=false):tries k pid x=k:=by
 unfold tries;dsimp only;rw [if_neg (by rw [h];decide)];unfold eM at h;simp only [Bool.not_eq_false',Bool.and_eq_true,beq_iff_eq,Bool.not_eq_true',beq_eq_false_iff_ne] at h;exact qHa h.1 h.2
theorem tH {pid:Int} {x:Call} (h:eM k pid x=true) {p q:Proc} (hp:find k.p pid=some p) (hq:find (aW k p x).k.p pid=some q):tries k pid x=Kn.answer (aW k p x).k q x (aW k p x).v (aW k p x).e:=by
 unfold tries;rw [hp];dsimp only [Option.getD_some];rw [if_pos h,hq];rfl
structure tO (x:Call):Prop where
 n:W32 x.n
 a:W32 x.a
 b:W32 x.b
 c:W32 x.c
theorem Inv.asks (h:Inv [] k) (hp:p ∈ k.p) (h1:p.st=1) {x:Call} (hx:tO x):qFd k p (Kn.asks k p x):=by
 have hl:=h.like hp;have z:=jV;have hlive:∃ q ∈ k.p,q.pid=p.pid∧q.st ≠ 4:=⟨p,hp,rfl,by omega⟩
 have hwd:=h.tab.wd p hp;have hmem:=h.tab.mem p hp
 have hfd:∀ n e,(k.aG.length:Int)<n→fdn p n e=0:=fun n e hn=> by
  have:=h.po.out n e hn
  have:=qHn hp n e
  have:=(oN p n e).1
  omega
 unfold Kn.asks;by_cases c1:x.n=1
 · rw [if_pos c1];by_cases hp1:p.pid=1
   · rw [hp1];exact ⟨h.qUi _ _,.inr ⟨by unfold ends;rw [if_pos rfl];show (1:Int) + 0 ≠ 0;decide,by unfold ends;rw [if_pos rfl]⟩⟩
   · have:=h.qJr hp (by omega) hp1 (x.a % 256) 0
     exact ⟨this.inv,.inl ⟨this.gone,this.ne⟩⟩
 rw [if_neg c1];by_cases c7:x.n=7
 · rw [if_pos c7];exact (h.asked hp hl h1 z x).t (zF _) (qHb h.tl)
 rw [if_neg c7];by_cases c8:x.n=8
 · rw [if_pos c8];split
   · refine ⟨h.qXm hp h1 x hx.n hx.a hx.b hx.c _,.inl ⟨rfl,?_⟩⟩;show put k.p ({p with st:=3,wn:=x.n,wa:=x.a,wb:=x.b,wc:=x.c}:Proc) ≠ []
     have e:put k.p ({p with st:=3,wn:=x.n,wa:=x.a,wb:=x.b,wc:=x.c}:Proc)=Kn.upd k.p ({p with st:=3,wn:=x.n,wa:=x.a,wb:=x.b,wc:=x.c}:Proc):=fW h.tab.so hp rfl;rw [e];exact List.ne_nil_of_mem (lT hp rfl)
   · exact h.asked hp hl h1 z x
 rw [if_neg c8];by_cases c20:x.n=20
 · rw [if_pos c20];split
   · exact h.asked hp hl h1 z x
   · have:=(h.want (3 + x.a)).asked (k:={k with want:=3 + x.a}) hp hl h1 (e:=0) z x
     exact ⟨this.inv,this.life⟩
 rw [if_neg c20];by_cases c19:x.n=19
 · rw [if_pos c19];have:=(h.want (k.want + 1 + 1)).asked (k:={k with want:=k.want + 1 + 1}) hp hl h1 (e:=0) z x
   exact ⟨this.inv,this.life⟩
 rw [if_neg c19];by_cases c18:x.n=18
 · rw [if_pos c18];have:=(h.want (k.want + 1)).asked (k:={k with want:=k.want + 1}) hp hl h1 (e:=0) z x
   exact ⟨this.inv,this.life⟩
 rw [if_neg c18];by_cases c5:x.n=5
 · rw [if_pos c5];unfold jR;split
   · exact h.asked hp hl h1 z x
   · next hna=>
     split
     · exact h.asked hp hl h1 z x
     · next hv=>
       unfold pU at hv;cases hq:find k.p x.a with
       |none=> rw [hq] at hv;exact absurd rfl hv
       |some q=>
        rw [hq] at hv;obtain ⟨hqm,hqp⟩:=uA hq;have h4:q.st ≠ 4:=fun h4=> hv (by show (!(q.st==4))=false;simp [h4]);have hE:=h.qJr hqm h4 (by omega) 137 0;rw [hqp] at hE;dsimp only;split
        · exact ⟨hE.inv,.inl ⟨hE.gone,hE.ne⟩⟩
        · next hxp=>
          obtain ⟨r,hr,hr1,hr2⟩:=hE.oth p hp (by omega);rw [gQ hE.inv.tab.so hr hr1];have:=hE.inv.asked hr (hE.inv.like hr) (by omega) (e:=0) z x
          refine ⟨this.inv,?_⟩;rcases this.life with g|g
          · exact .inl ⟨g.1.trans hE.gone,g.2⟩
          · exact .inr g
 rw [if_neg c5];by_cases c3:x.n=3
 · rw [if_pos c3];have hF:sA [] k (Kn.fresh k (lK p)):=h.fresh (p:=lK p) hmem ⟨Words.set0 hwd.rs z,hwd.pc,hwd.wn,hwd.wa,hwd.wb,hwd.wc⟩ (.inr hlive) hfd;have:=hF.inv.asked (hF.oth p hp) (hF.inv.like (hF.oth p hp)) h1 (e:=fN k) hF.v x
   refine ⟨this.inv,?_⟩;rcases this.life with g|g
   · exact .inl ⟨g.1.trans hF.gone,g.2⟩
   · exact .inr g
 rw [if_neg c3];by_cases c2:x.n=2
 · rw [if_pos c2];split
   · next hi=>
     have hF:sA [] k (Kn.fresh k (lE p (eG k x.a))):=h.fresh (p:=lE p (eG k x.a)) (nQ hi) ⟨sK.rs,z,z,z,z,z⟩ (.inr hlive) (fun n e hn=> qFc ⟨rfl,rfl,rfl,rfl,rfl,rfl,rfl,rfl⟩ n e (by omega));have:=hF.inv.asked (hF.oth p hp) (hF.inv.like (hF.oth p hp)) h1 (e:=fN k) hF.v x
     refine ⟨this.inv,?_⟩;rcases this.life with g|g
     · exact .inl ⟨g.1.trans hF.gone,g.2⟩
     · exact .inr g
   · exact h.asked hp hl h1 z x
 rw [if_neg c2];by_cases c17:x.n=17
 · rw [if_pos c17];split
   · next hi=> exact h.asked hp (p':=qAo p (eG k x.a)) ⟨rfl,rfl,nQ hi,⟨sK.rs,z,hwd.wn,hwd.wa,hwd.wb,hwd.wc⟩,fun _ _ _=> rfl⟩ h1 z x
   · exact h.asked hp hl h1 z x
 rw [if_neg c17];have hT:=h.qEw hp (by omega) x hx.a hx.b;by_cases cT:eM k p.pid x=true
 · rw [if_pos cT];obtain ⟨q,hq,hq1,hq2⟩:=hT.me;rw [tH cT (gQ h.tab.so hp rfl) (gQ hT.inv.tab.so hq hq1)];have:=hT.inv.asked hq (hT.inv.like hq) (by omega) (e:=(aW k p x).e) hT.v x
   refine ⟨this.inv,?_⟩;rcases this.life with g|g
   · refine .inl ⟨g.1.trans ?_,g.2⟩;exact qBj k p x
   · exact .inr g
 · rw [if_neg cT];rw [nC (by simpa using cT)];refine ⟨h.qXl hp h1 x hx.n hx.a hx.b hx.c,.inl ⟨rfl,?_⟩⟩;show put k.p ({p with st:=2,wn:=x.n,wa:=x.a,wb:=x.b,wc:=x.c}:Proc) ≠ []
   have e:put k.p ({p with st:=2,wn:=x.n,wa:=x.a,wb:=x.b,wc:=x.c}:Proc)=Kn.upd k.p ({p with st:=2,wn:=x.n,wa:=x.a,wb:=x.b,wc:=x.c}:Proc):=fW h.tab.so hp rfl;rw [e];exact List.ne_nil_of_mem (lT hp rfl)
end
structure Told (a:Nat) (k k':aI):Prop where
 tr:∃ l,k'.trace=k.trace ++ l∧l.length≤a∧(∀ e ∈ l,e.at_=k.now∧1≤e.pid)∧k'.sent.length≤k.sent.length + l.length
 co:∃ s,k'.cons=k.cons ++ s∧s.size≤a
 now:k'.now=k.now
 im:k'.images=k.images
 ou:k'.outs=k.outs
 ins_:k'.ins_=k.ins_
 hs:k'.hs=k.hs
 bl:k'.box.length=k.box.length
 box:∀ (i:Nat) (b':Box),k'.box[i]? =some b'→∃ (b:Box) (n:Nat),k.box[i]? =some b∧b'.l=b.l.drop n∧b'.lost=b.lost
 pid:∀ B,0≤B→(∀ q ∈ k.p,q.pid≤B)→∀ q ∈ k'.p,q.pid≤B + a
theorem fE (s:ByteArray):s ++ (⟨#[]⟩:ByteArray)=s:=ByteArray.append_empty
theorem tS (a b c:ByteArray):a ++ b ++ c=a ++ (b ++ c):=ByteArray.append_assoc
theorem Told.refl (k:aI):Told 0 k k:=⟨⟨[],(List.append_nil _).symm,Nat.le_refl _,fun e h=> (nomatch h),by simp⟩,⟨⟨#[]⟩,(fE _).symm,Nat.le_refl _⟩,rfl,rfl,rfl,rfl,rfl,rfl,fun i b h=> ⟨b,0,h,rfl,rfl⟩,fun B _ h q hq=> by have:=h q hq;omega⟩
theorem Told.mono {a b:Nat} {k k':aI} (h:Told a k k') (hab:a≤b):Told b k k':=by
 obtain ⟨⟨l,l1,l2,l3,l4⟩,⟨s,s1,s2⟩,h3,h4,h5,h6,h7,h8,h9,h10⟩:=h;exact ⟨⟨l,l1,by omega,l3,l4⟩,⟨s,s1,by omega⟩,h3,h4,h5,h6,h7,h8,h9,fun B hB hq q hq'=> by have:=h10 B hB hq q hq';omega⟩
theorem Told.trans {a b:Nat} {k k1 k2:aI} (h:Told a k k1) (g:Told b k1 k2):Told (a + b) k k2:=by
 obtain ⟨⟨l,l1,l2,l3,l4⟩,⟨s,s1,s2⟩,h3,h4,h5,h6,h7,h8,h9,h10⟩:=h;obtain ⟨⟨m,m1,m2,m3,m4⟩,⟨r,r1,r2⟩,g3,g4,g5,g6,g7,g8,g9,g10⟩:=g;refine ⟨⟨l ++ m,by rw [m1,l1,List.append_assoc],by rw [List.length_append];omega,fun e he=> ?_,by rw [List.length_append];omega⟩,⟨s ++ r,by rw [r1,s1,tS],by rw [ByteArray.size_append];omega⟩,g3.trans h3,g4.trans h4,g5.trans h5,g6.trans h6,g7.trans h7,g8.trans h8,fun i c hc=> ?_,fun B hB hq q hq'=> ?_⟩
 · rcases List.mem_append.1 he with he|he
   · exact l3 e he
   · have:=m3 e he
     rw [h3] at this;exact this
 · obtain ⟨x,n,x1,x2,x3⟩:=g9 i c hc;obtain ⟨y,m,y1,y2,y3⟩:=h9 i x x1;exact ⟨y,m + n,y1,by rw [x2,y2,List.drop_drop],x3.trans y3⟩
 · have:=g10 (B + a) (by omega) (h10 B hB hq) q hq'
   omega
theorem nU {l:List Proc} {p:Proc} {B:Int} (h:∀ q ∈ l,q.pid≤B) (hp:∃ q ∈ l,q.pid=p.pid):∀ q ∈ Kn.upd l p,q.pid≤B:=fun q hq=> by
 obtain ⟨r,hr,he⟩:=hp;rcases pG hq with rfl|⟨hq,_⟩
 · have:=h r hr;omega
 · exact h q hq
section
variable {D:List Int} {k k':aI} {p p':Proc}
theorem Told.rows (e1:k'.trace=k.trace) (e2:k'.sent=k.sent) (e3:k'.cons=k.cons) (e4:k'.now=k.now) (e5:k'.images=k.images) (e6:k'.outs=k.outs) (e7:k'.ins_=k.ins_) (e8:k'.hs=k.hs) (e9:k'.box=k.box)
 (hp:∀ B,0≤B→(∀ q ∈ k.p,q.pid≤B)→∀ q ∈ k'.p,q.pid≤B):Told 0 k k':=
 ⟨⟨[],by rw [e1,List.append_nil],Nat.le_refl _,fun e h=> (nomatch h),by rw [e2];simp⟩,⟨⟨#[]⟩,by rw [e3,fE],Nat.le_refl _⟩,e4,e5,e6,e7,e8,by rw [e9],fun i b h=> ⟨b,0,by rw [← e9];exact h,rfl,rfl⟩,fun B hB h q hq=> by have:=hp B hB h q hq;omega⟩
theorem Inv.qD (h:Inv D k) (hp:p ∈ k.p) (he:p'.pid=p.pid) (x:Call) (v e:Int):Told 1 k (Kn.answer k p' x v e):=by
 refine ⟨⟨[⟨p'.pid,x.n,pC e v,k.now⟩],rfl,Nat.le_refl _,fun e he'=> ?_,Nat.le_succ _⟩,⟨⟨#[]⟩,(fE _).symm,Nat.zero_le _⟩,rfl,rfl,rfl,rfl,rfl,rfl,fun i b h=> ⟨b,0,h,rfl,rfl⟩,fun B hB hq q hq'=> ?_⟩
 · rw [List.mem_singleton] at he';subst he';exact ⟨rfl,by show 1≤p'.pid;rw [he];exact h.tab.pos p hp⟩
 · have hu:put k.p (back p' v e)=Kn.upd k.p (back p' v e):=fW h.tab.so hp (show p.pid=p'.pid from he.symm);have hq':q ∈ put k.p (back p' v e):=hq';rw [hu] at hq';have:=nU (p:=back p' v e) hq ⟨p,hp,(show p.pid=p'.pid from he.symm)⟩ q hq'
   omega
theorem Told.t {a:Nat} (h:Told a k k') (t:jM):Told a k {k' with t:=t}:=⟨h.tr,h.co,h.now,h.im,h.ou,h.ins_,h.hs,h.bl,h.box,h.pid⟩
structure uX (k:aI) (r:iA):Prop where
 tr:r.k.trace=k.trace
 co:∃ s,r.k.cons=k.cons ++ s∧s.size≤1
 se:r.k.sent.length≤k.sent.length + 1
 bl:r.k.box.length=k.box.length
 box:∀ (i:Nat) (b':Box),r.k.box[i]? =some b'→∃ (b:Box) (n:Nat),k.box[i]? =some b∧b'.l=b.l.drop n∧b'.lost=b.lost
 h:r.k.h=k.h
theorem qJk {l:List Box} {j:Nat} {b b':Box} (hb:l[j]? =some b) {n:Nat} (h1:b'.l=b.l.drop n) (h2:b'.lost=b.lost):∀ (i:Nat) (c:Box),(l.set j b')[i]? =some c→∃ (b:Box) (n:Nat),l[i]? =some b∧c.l=b.l.drop n∧c.lost=b.lost:=fun i c hc=> by
 rw [List.getElem?_set] at hc;split at hc
 · next he=>
   subst he;split at hc
   · injection hc with hc
     subst hc;exact ⟨b,n,hb,h1,h2⟩
   · cases hc
 · exact ⟨c,0,hc,rfl,rfl⟩
theorem qIr (k:aI) (p:Proc) (x:Call):uX k (aW k p x):=by
 have nul:∃ s,k.cons=k.cons ++ s∧s.size≤1:=⟨⟨#[]⟩,(fE _).symm,Nat.zero_le _⟩
 have triv:∀ v e,uX k ⟨k,v,e⟩:=fun v e=> ⟨rfl,nul,Nat.le_succ _,rfl,fun i b h=> ⟨b,0,h,rfl,rfl⟩,rfl⟩
 have rows:∀ (pp:List Proc) (pi:List cG) v e,uX k ⟨{k with p:=pp,aG:=pi},v,e⟩:=fun pp pi v e=> ⟨rfl,nul,Nat.le_succ _,rfl,fun i b h=> ⟨b,0,h,rfl,rfl⟩,rfl⟩
 unfold aW;split
 · unfold wait;split
   · exact rows _ _ _ _
   · split <;> exact triv _ _
 split
 · exact triv _ _
 split
 · exact triv _ _
 split
 · exact ⟨rfl,⟨_,rfl,Nat.le_refl _⟩,Nat.le_succ _,rfl,fun i b h=> ⟨b,0,h,rfl,rfl⟩,rfl⟩
 split
 · unfold aG;repeat' split
   all_goals first|exact triv _ _|exact rows _ _ _ _
 split
 · unfold writes;dsimp only;repeat' split
   all_goals first|exact triv _ _|exact rows _ _ _ _
 split
 · unfold reads;dsimp only;repeat' split
   all_goals first|exact triv _ _|exact rows _ _ _ _
 split
 · unfold gM;split
   · exact triv _ _
   · exact rows _ _ _ _
 split
 · unfold gZ;split
   · exact triv _ _
   · split
     · exact triv _ _
     · split
       · exact triv _ _
       · exact ⟨rfl,nul,by show (k.sent ++ [_]).length≤_;rw [List.length_append,List.length_singleton];omega,rfl,fun i b h=> ⟨b,0,h,rfl,rfl⟩,rfl⟩
 split
 · unfold mH;split
   · next c b hc hb=>
     split
     · exact triv _ _
     · next m r hm=>
       split
       · exact triv _ _
       · split
         · exact triv _ _
         · refine ⟨rfl,nul,Nat.le_succ _,List.length_set,?_,rfl⟩;show ∀ (i:Nat) (b':Box),(k.box.set x.a.toNat (qE c b))[i]? =some b'→_
           unfold qE;split
           · exact qJk (n:=0) hb rfl rfl
           · exact qJk (n:=1) hb rfl rfl
   · exact triv _ _
 · exact triv _ _
theorem qTm (k:aI) (p:Proc) (x:Call):(aW k p x).k.p=k.p∨(∃ i,(aW k p x).k.p=remove k.p i)∨∃ p',(aW k p x).k.p=put k.p p'∧p'.pid=p.pid:=
 qBl k p x (fun r=> r.k.p=k.p∨(∃ i,r.k.p=remove k.p i)∨∃ p',r.k.p=put k.p p'∧p'.pid=p.pid)
  (fun _ _=> .inl rfl) (fun i _ _=> .inr (.inl ⟨i,rfl⟩)) (fun _ _ _=> .inl rfl) (fun _ _ _=> .inl rfl) (fun _ p' _ _ h=> .inr (.inr ⟨p',rfl,h⟩)) (fun _ _ _=> .inl rfl) (fun _ p' _ _ h=> .inr (.inr ⟨p',rfl,h⟩))
theorem qMw (h:Inv D k) (hp:p ∈ k.p) (x:Call) {B:Int} (hB:∀ q ∈ k.p,q.pid≤B):∀ q ∈ (aW k p x).k.p,q.pid≤B:=by
 rcases qTm k p x with g|⟨i,g⟩|⟨p',g,g2⟩
 · rw [g];exact hB
 · rw [g];exact fun q hq=> hB q (iN.1 hq).1
 · rw [g,fW h.tab.so hp g2.symm];exact nU hB ⟨p,hp,g2.symm⟩
theorem Inv.qBm (h:Inv D k) (hp:p ∈ k.p) (hst:p.st ≠ 4) (x:Call) (ha:W32 x.a) (hb:W32 x.b):Told 1 k (tries k p.pid x):=by
 cases ht:eM k p.pid x with
 |false=>
  rw [nC ht];exact (Told.refl k).mono (Nat.zero_le _)
 |true=>
  have hT:=h.qEw hp hst x ha hb;obtain ⟨q,hq,hq1,hq2⟩:=hT.me;rw [tH ht (gQ h.tab.so hp rfl) (gQ hT.inv.tab.so hq hq1)];obtain ⟨t1,⟨s,t2,t3⟩,t4,t5,t6,t7⟩:=qIr k p x;obtain ⟨f1,f2,f3,f4,f5,f6,f7,f8,f9⟩:=jU k p x;obtain ⟨⟨l,l1,l2,l3,l4⟩,⟨r,r1,r2⟩,g3,g4,g5,g6,g7,g8,g9,g10⟩:=hT.inv.qD hq rfl x (aW k p x).v (aW k p x).e;have hc:(Kn.answer (aW k p x).k q x (aW k p x).v (aW k p x).e).cons=k.cons ++ s:=t2;refine ⟨⟨[⟨q.pid,x.n,pC (aW k p x).e (aW k p x).v,(aW k p x).k.now⟩],by show (aW k p x).k.trace ++ _=_;rw [t1],Nat.le_refl _,fun e he'=> ?_,t4⟩,⟨s,hc,t3⟩,f4,f5,f6,f7,f8,t5,t6,fun B hB hq' r hr=> ?_⟩
  · rw [List.mem_singleton] at he';subst he';exact ⟨f4,hT.inv.tab.pos q hq⟩
  · have hu:put (aW k p x).k.p (back q (aW k p x).v (aW k p x).e)=Kn.upd (aW k p x).k.p (back q (aW k p x).v (aW k p x).e):=fW hT.inv.tab.so hq rfl;have hr:r ∈ put (aW k p x).k.p (back q (aW k p x).v (aW k p x).e):=hr;rw [hu] at hr;have hB2:∀ y ∈ (aW k p x).k.p,y.pid≤B:=qMw h hp x hq';have:=nU (p:=back q (aW k p x).v (aW k p x).e) hB2 ⟨q,hq,rfl⟩ r hr
    omega
end
section
variable {D:List Int} {k k':aI} {p p':Proc}
theorem Told.same {a:Nat} {k k1 k2:aI} (h:Told a k1 k2) (e1:k1.trace=k.trace) (e2:k1.sent=k.sent) (e3:k1.cons=k.cons) (e4:k1.now=k.now) (e5:k1.images=k.images) (e6:k1.outs=k.outs) (e7:k1.ins_=k.ins_) (e8:k1.hs=k.hs) (e9:k1.box=k.box) (e10:k1.p=k.p):Told a k k2:=by
 obtain ⟨⟨l,l1,l2,l3,l4⟩,⟨s,s1,s2⟩,h3,h4,h5,h6,h7,h8,h9,h10⟩:=h;exact ⟨⟨l,by rw [l1,e1],l2,by rw [← e4];exact l3,by rw [← e2];exact l4⟩,⟨s,by rw [s1,e3],s2⟩,h3.trans e4,h4.trans e5,h5.trans e6,h6.trans e7,h7.trans e8,by rw [h8,e9],by rw [← e9];exact h9,by rw [← e10];exact h10⟩
structure qJh (D:List Int) (a:Nat) (k k':aI):Prop where
 inv:Inv D k'
 told:Told a k k'
 gone:k'.gone=k.gone
 ne:k.p ≠ []→k'.p ≠ []
theorem qPv {l:List Proc} (hs:eJ l) {p q:Proc} (hq:q ∈ l) (he:q.pid=p.pid):put l p ≠ []:=by
 rw [fW hs hq he];exact List.ne_nil_of_mem (lT hq he)
theorem Inv.iY {pid:Int} (h:Inv (pid::D) k):qJh D 1 k (Kn.iY k pid)∧∃ p ∈ k.p,p.pid=pid∧p.st=3:=by
 obtain ⟨p,hp,h1,h3⟩:=(h.al.2 pid).1 (List.mem_append_right _ List.mem_cons_self);subst h1;refine ⟨?_,p,hp,rfl,h3⟩;unfold Kn.iY;rw [h.tab.so.find hp];dsimp only;rw [if_pos h3];exact ⟨h.xAh hp h3 jV _,(h.qD hp rfl _ _ _).t _,rfl,fun _=> qPv h.tab.so hp rfl⟩
theorem Inv.cU:∀ (pre:List Int) {post:List Int} {k:aI},Inv (pre ++ post) k→qJh post pre.length k (pre.foldl Kn.iY k)
 |[],_,k,h=> ⟨h,Told.refl k,rfl,fun h=> h⟩
 |a::pre,post,k,h=> by
  have h1:=(Inv.iY h).1;have h2:=Inv.cU pre h1.inv;exact ⟨h2.inv,(h1.told.trans h2.told).mono (by rw [List.length_cons];omega),h2.gone.trans h1.gone,fun hn=> h2.ne (h1.ne hn)⟩
theorem Inv.due (h:Inv [] k) (now:Int):Inv (Kn.due k.s now) {k with s:=rest k.s now}:=by
 refine ⟨h.tab,h.n6,h.tn,h.tl,qGq h.so _,?_,h.hr,h.h64,h.hp,h.po⟩;have hal:=h.al;rw [List.append_nil] at hal;refine hal.perm ?_;rw [← tY k.s now];exact List.perm_append_comm
structure qDr (a:Nat) (post:List Proc) (k k':aI):Prop where
 inv:Inv [] k'
 told:Told a k k'
 gone:k'.gone=k.gone
 ne:k.p ≠ []→k'.p ≠ []
 post:∀ q ∈ post,q.st=2→∃ r ∈ k'.p,r.pid=q.pid∧r.st=2
theorem Inv.qXu (h:Inv [] k) {q:Proc} {post:List Proc} (hs:∀ y ∈ post,y.pid ≠ q.pid) (hw:lU q) (hr:q.st=2→∃ r ∈ k.p,r.pid=q.pid∧r.st=2)
 (hpost:∀ y ∈ post,y.st=2→∃ r ∈ k.p,r.pid=y.pid∧r.st=2):qDr 1 post k (Kn.iZ k q):=by
 unfold Kn.iZ;split
 · next h2=>
   obtain ⟨r,hrm,hrp,hr2⟩:=hr h2;cases ht:eM k q.pid q.want with
   |false=>
    rw [if_neg (by decide),nC ht];exact ⟨h,(Told.refl k).mono (Nat.zero_le _),rfl,fun h=> h,hpost⟩
   |true=>
    rw [if_pos rfl];have htold:=h.qBm hrm (by omega) q.want hw.wa hw.wb;rw [hrp] at htold;have hT:=h.qEw hrm (by omega) q.want hw.wa hw.wb;obtain ⟨y,hy,hy1,hy2⟩:=hT.me;have he:tries k q.pid q.want=Kn.answer (aW k r q.want).k y q.want (aW k r q.want).v (aW k r q.want).e:=tH ht (gQ h.tab.so hrm hrp) (gQ hT.inv.tab.so hy (hy1.trans hrp));have hi:=hT.inv.iZ hy (by omega) (e:=(aW k r q.want).e) hT.v q.want;have hyq:y.pid=q.pid:=hy1.trans hrp;rw [hyq] at hi;refine ⟨?_,htold.t _,?_,fun _=> ?_,fun z hz h2z=> ?_⟩
    · rw [he];exact hi
    · rw [he];exact qBj k r q.want
    · rw [he];exact qPv hT.inv.tab.so hy rfl
    · obtain ⟨u,hu,hu1,hu2⟩:=hpost z hz h2z;have:=hT.oth u hu (by have:=hs z hz;omega) (by omega)
      refine ⟨u,?_,hu1,hu2⟩;rw [he];show u ∈ put _ (back y _ _)
      rw [fW hT.inv.tab.so hy (show y.pid=(back y (aW k r q.want).v (aW k r q.want).e).pid from rfl)];exact nK this (by show u.pid ≠ y.pid;have:=hs z hz;omega)
 · exact ⟨h,(Told.refl k).mono (Nat.zero_le _),rfl,fun h=> h,hpost⟩
theorem Inv.qIx:∀ (pre:List Proc) {post:List Proc} {k:aI},Inv [] k→eJ (pre ++ post)→(∀ q ∈ pre ++ post,lU q)→(∀ q ∈ pre ++ post,q.st=2→∃ r ∈ k.p,r.pid=q.pid∧r.st=2)→qDr pre.length post k (pre.foldl Kn.iZ k)
 |[],_,k,h,_,_,hp=> ⟨h,Told.refl k,rfl,fun h=> h,hp⟩
 |q::pre,post,k,h,hs,hw,hp=> by
  obtain ⟨s1,s2⟩:=List.pairwise_cons.1 hs;have h1:=h.qXu (q:=q) (post:=pre ++ post) (fun y hy=> by have:=s1 y hy;omega) (hw q List.mem_cons_self) (hp q List.mem_cons_self) (fun y hy=> hp y (List.mem_cons_of_mem _ hy));have h2:=Inv.qIx pre h1.inv s2 (fun y hy=> hw y (List.mem_cons_of_mem _ hy)) h1.post;exact ⟨h2.inv,(h1.told.trans h2.told).mono (by rw [List.length_cons];omega),h2.gone.trans h1.gone,fun hn=> h2.ne (h1.ne hn),h2.post⟩
theorem qBh:∀ {l m:List Int},l.Nodup→(∀ i ∈ l,i ∈ m)→l.length≤m.length
 |[],_,_,_=> Nat.zero_le _
 |a::l,m,hn,hs=> by
  obtain ⟨h1,h2⟩:=List.nodup_cons.1 hn;have ha:=hs a List.mem_cons_self;have:=qBh (m:=m.erase a) h2 (fun i hi=> (List.mem_erase_of_ne (fun he=> h1 (by rw [← he];exact hi))).2 (hs i (List.mem_cons_of_mem _ hi)))
  rw [List.length_erase_of_mem ha] at this;have:=List.length_pos_of_mem ha
  rw [List.length_cons];omega
theorem Keys.len {l:List Int} {ps:List Proc} {pr:Int→Prop} (h:Keys l ps pr):l.length≤ps.length:=by
 have:=qBh (m:=ps.map (·.pid)) h.1 (fun i hi=> by
  obtain ⟨p,hp,h1,_⟩:=(h.2 i).1 hi;exact List.mem_map.2 ⟨p,hp,h1⟩)
 rwa [List.length_map] at this
theorem Inv.jA (h:Inv [] k):qDr 12 [] k (Kn.jA k):=by
 have h0:=h.due k.now;rw [← List.append_nil (Kn.due k.s k.now)] at h0;have h1:=Inv.cU _ h0
 have hlen:(Kn.due k.s k.now).length≤6:=by
  have:=h.al.len
  rw [List.append_nil,← tY k.s k.now,List.length_append] at this;have:=h.n6
  omega
 have h2:=Inv.qIx (Kn.cU k).p (post:=[]) (k:=Kn.cU k) h1.inv (by rw [List.append_nil];exact h1.inv.tab.so) (by rw [List.append_nil];exact h1.inv.tab.wd) (by rw [List.append_nil];exact fun q hq h2=> ⟨q,hq,rfl,h2⟩);have hn:(Kn.cU k).p.length≤6:=h1.inv.n6;have t1:Told (Kn.due k.s k.now).length k (Kn.cU k):=h1.told.same rfl rfl rfl rfl rfl rfl rfl rfl rfl rfl;exact ⟨h2.inv,(t1.trans h2.told).mono (by omega),h2.gone.trans h1.gone,fun hne=> h2.ne (h1.ne hne),h2.post⟩
theorem qFj {l:List Proc} {B s d:Int} (h:∀ q ∈ l,q.pid≤B):∀ q ∈ dQ l s d,q.pid≤B:=fun q hq=> by
 rw [jG] at hq;obtain ⟨y,hy,rfl⟩:=List.mem_map.1 hq;rw [lA];exact h y hy
theorem Inv.xC (h:Inv D k) (hp:p ∈ k.p) (code why:Int):Told 0 k (ends k p.pid code why):=by
 unfold ends;split
 · exact Told.rows rfl rfl rfl rfl rfl rfl rfl rfl rfl (fun B _ _ q hq=> nomatch hq)
 · dsimp only;rw [h.tab.so.find hp];dsimp only [Option.getD_some];split
   · exact Told.rows rfl rfl rfl rfl rfl rfl rfl rfl rfl (fun B _ hB q hq=> qFj hB q (iN.1 hq).1)
   · refine Told.rows rfl rfl rfl rfl rfl rfl rfl rfl rfl (fun B _ hB q hq=> ?_);have hme:ado p.pid 1 p ∈ dQ k.p p.pid 1:=by rw [jG];exact List.mem_map_of_mem hp
     have hq:q ∈ put (dQ k.p p.pid 1) (over p code):=hq;rw [fW (h.tab.so.dQ p.pid 1) hme (show (ado p.pid 1 p).pid=(over p code).pid from lA _ _ _)] at hq;exact nU (p:=over p code) (qFj hB) ⟨ado p.pid 1 p,hme,lA _ _ _⟩ q hq
theorem qAq (k:aI) (p:Proc):Told 1 k (Kn.fresh k p):=by
 unfold Kn.fresh;split
 · exact (Told.refl k).mono (Nat.zero_le _)
 · split
   · refine ⟨⟨[],(List.append_nil _).symm,Nat.zero_le _,fun e h=> (nomatch h),by simp⟩,⟨⟨#[]⟩,(fE _).symm,Nat.zero_le _⟩,rfl,rfl,rfl,rfl,rfl,rfl,fun i b h=> ⟨b,0,h,rfl,rfl⟩,fun B hB h q hq=> ?_⟩;have hq:q ∈ put k.p (born p (next k.p)):=hq;rw [qEo (p:=born p (next k.p)) (qKa k.p)] at hq;rcases List.mem_append.1 hq with hq|hq
     · have:=h q hq;omega
     · rw [List.mem_singleton] at hq;subst hq;have:=qSs hB h
       show next k.p≤_
       omega
   · exact (Told.refl k).mono (Nat.zero_le _)
theorem Inv.qLa (h:Inv [] k) (hp:p ∈ k.p) (h1:p.st=1) {x:Call} (hx:tO x):Told 2 k (Kn.asks k p x):=by
 have ans:∀ {k1:aI} {q q':Proc} (v e:Int),Inv [] k1→q ∈ k1.p→q'.pid=q.pid→Told 1 k1 (Kn.answer k1 q' x v e):=fun v e h hq he=> h.qD hq he x v e;have hwd:=h.tab.wd p hp;have hmem:=h.tab.mem p hp;have hlive:∃ q ∈ k.p,q.pid=p.pid∧q.st ≠ 4:=⟨p,hp,rfl,by omega⟩
 have z:=jV;unfold Kn.asks;by_cases c1:x.n=1
 · rw [if_pos c1];exact (h.xC hp _ _).mono (by omega)
 rw [if_neg c1];by_cases c7:x.n=7
 · rw [if_pos c7];exact ((ans _ _ h hp rfl).t _).mono (by omega)
 rw [if_neg c7];by_cases c8:x.n=8
 · rw [if_pos c8];split
   · refine Told.mono (a:=0) (Told.rows rfl rfl rfl rfl rfl rfl rfl rfl rfl (fun B _ hB q hq=> ?_)) (Nat.zero_le _);have hq:q ∈ put k.p ({p with st:=3,wn:=x.n,wa:=x.a,wb:=x.b,wc:=x.c}:Proc):=hq;rw [fW (p:=({p with st:=3,wn:=x.n,wa:=x.a,wb:=x.b,wc:=x.c}:Proc)) h.tab.so hp rfl] at hq;refine nU hB ?_ q hq;exact ⟨p,hp,rfl⟩
   · exact (ans _ _ h hp rfl).mono (by omega)
 rw [if_neg c8];by_cases c20:x.n=20
 · rw [if_pos c20];split
   · exact (ans _ _ h hp rfl).mono (by omega)
   · refine Told.mono (a:=1) (b:=2) ?_ (by omega);exact (ans (k1:={k with want:=(3 + x.a)}) _ _ (h.want (3 + x.a)) hp rfl).same rfl rfl rfl rfl rfl rfl rfl rfl rfl rfl
 rw [if_neg c20];by_cases c19:x.n=19
 · rw [if_pos c19];refine Told.mono (a:=1) (b:=2) ?_ (by omega);exact (ans (k1:={k with want:=(k.want + 1 + 1)}) _ _ (h.want (k.want + 1 + 1)) hp rfl).same rfl rfl rfl rfl rfl rfl rfl rfl rfl rfl
 rw [if_neg c19];by_cases c18:x.n=18
 · rw [if_pos c18];refine Told.mono (a:=1) (b:=2) ?_ (by omega);exact (ans (k1:={k with want:=(k.want + 1)}) _ _ (h.want (k.want + 1)) hp rfl).same rfl rfl rfl rfl rfl rfl rfl rfl rfl rfl
 rw [if_neg c18];by_cases c5:x.n=5
 · rw [if_pos c5];unfold jR;split
   · exact (ans _ _ h hp rfl).mono (by omega)
   · next hna=>
     split
     · exact (ans _ _ h hp rfl).mono (by omega)
     · next hv=>
       unfold pU at hv;cases hq:find k.p x.a with
       |none=> rw [hq] at hv;exact absurd rfl hv
       |some q=>
        rw [hq] at hv;obtain ⟨hqm,hqp⟩:=uA hq;have h4:q.st ≠ 4:=fun h4=> hv (by show (!(q.st==4))=false;simp [h4]);have hE:=h.qJr hqm h4 (by omega) 137 0;have hT:=h.xC hqm 137 0;rw [hqp] at hE hT;dsimp only;split
        · exact hT.mono (by omega)
        · next hxp=>
          obtain ⟨r,hr,hr1,hr2⟩:=hE.oth p hp (by omega);rw [gQ hE.inv.tab.so hr hr1];exact (hT.trans (ans _ _ hE.inv hr rfl)).mono (by omega)
 rw [if_neg c5]
 have hfd:∀ n e,(k.aG.length:Int)<n→fdn p n e=0:=fun n e hn=> by
  have:=h.po.out n e hn
  have:=qHn hp n e
  have:=(oN p n e).1
  omega
 by_cases c3:x.n=3
 · rw [if_pos c3];have hF:sA [] k (Kn.fresh k (lK p)):=h.fresh (p:=lK p) hmem ⟨Words.set0 hwd.rs z,hwd.pc,hwd.wn,hwd.wa,hwd.wb,hwd.wc⟩ (.inr hlive) hfd;exact (qAq k (lK p)).trans (ans _ _ hF.inv (hF.oth p hp) rfl)
 rw [if_neg c3];by_cases c2:x.n=2
 · rw [if_pos c2];split
   · next hi=>
     have hF:sA [] k (Kn.fresh k (lE p (eG k x.a))):=h.fresh (p:=lE p (eG k x.a)) (nQ hi) ⟨sK.rs,z,z,z,z,z⟩ (.inr hlive) (fun n e hn=> qFc ⟨rfl,rfl,rfl,rfl,rfl,rfl,rfl,rfl⟩ n e (by omega));exact (qAq k (lE p (eG k x.a))).trans (ans _ _ hF.inv (hF.oth p hp) rfl)
   · exact (ans _ _ h hp rfl).mono (by omega)
 rw [if_neg c2];by_cases c17:x.n=17
 · rw [if_pos c17];split
   · exact (ans (q':=qAo p (eG k x.a)) _ _ h hp rfl).mono (by omega)
   · exact (ans _ _ h hp rfl).mono (by omega)
 rw [if_neg c17];by_cases cT:eM k p.pid x=true
 · rw [if_pos cT];exact (h.qBm hp (by omega) x hx.a hx.b).mono (by omega)
 · rw [if_neg cT];rw [nC (by simpa using cT)];refine Told.mono (a:=0) (Told.rows rfl rfl rfl rfl rfl rfl rfl rfl rfl (fun B _ hB q hq=> ?_)) (Nat.zero_le _);have hq:q ∈ put k.p ({p with st:=2,wn:=x.n,wa:=x.a,wb:=x.b,wc:=x.c}:Proc):=hq;rw [fW (p:=({p with st:=2,wn:=x.n,wa:=x.a,wb:=x.b,wc:=x.c}:Proc)) h.tab.so hp rfl] at hq;refine nU hB ?_ q hq;exact ⟨p,hp,rfl⟩
theorem tM {p:Proc} (h:lU p):uT (p.aU (aO p)) p∧(aO p).m.size=p.mem.size∧tO (p.aU (aO p)).from_∧((aO p).t=0∨(aO p).t=1∨(aO p).t=2∨(aO p).t=3)∨p.mem.size ≠ 64:=by
 by_cases hm:p.mem.size=64
 · have hk:Kept [p.r0,p.r1,p.r2,p.r3,p.r4,p.r5,p.r6,p.r7] p.pc p.mem (aO p):=qDe h.rs h.pc.1 h.pc.2 p.mem;have hw:=hk.words;left
   refine ⟨⟨rfl,rfl,hk.size.trans hm,⟨⟨rfl,fun x hx=> ?_⟩,⟨hk.lo,hk.hi⟩,h.wn,h.wa,h.wb,h.wc⟩,fun _ _ _=> rfl⟩,hk.size,⟨hw.at 0,hw.at 1,hw.at 2,hw.at 3⟩,?_⟩
   · simp only [List.mem_cons,List.not_mem_nil,or_false] at hx;rcases hx with rfl|rfl|rfl|rfl|rfl|rfl|rfl|rfl
     · exact hw.at 0
     · exact hw.at 1
     · exact hw.at 2
     · exact hw.at 3
     · exact hw.at 4
     · exact hw.at 5
     · exact hw.at 6
     · exact hw.at 7
   · rcases hk.ways with g|g|g
     · rcases g.1 with g|g <;> omega
     · omega
     · omega
 · exact .inr hm
structure qUv (k k':aI):Prop where
 inv:Inv [] k'
 told:Told 2 k k'
 life:Life k'
theorem Inv.goes (h:Inv [] k) (hg:k.gone=0) (hne:k.p ≠ []):qUv k (Kn.goes k):=by
 unfold Kn.goes;cases htl:k.t.l with
 |nil=> exact ⟨h,(Told.refl k).mono (Nat.zero_le _),.inl ⟨hg,hne⟩⟩
 |cons pid r=>
  dsimp only;obtain ⟨p,hp,hpid,h1⟩:=(h.tn.2 pid).1 (by rw [htl];exact List.mem_cons_self);rw [gQ h.tab.so hp hpid];dsimp only [Option.getD_some];have hmem:=h.tab.mem p hp;rcases tM (h.tab.wd p hp) with ⟨hk,_,hcw,ht⟩|hbad
  · have hq:p.aU (aO p) ∈ put k.p (p.aU (aO p)):=by
     rw [fW h.tab.so hp (show p.pid=(p.aU (aO p)).pid from rfl)];exact lT hp rfl
    have hi:Inv [] {k with p:=put k.p (p.aU (aO p))}:=h.change hp hk (by omega) rfl rfl rfl rfl rfl rfl rfl
    have hto:Told 0 k {k with p:=put k.p (p.aU (aO p))}:=Told.rows rfl rfl rfl rfl rfl rfl rfl rfl rfl (fun B _ hB q hq=> by
     have hq:q ∈ put k.p (p.aU (aO p)):=hq;rw [fW h.tab.so hp (show p.pid=(p.aU (aO p)).pid from rfl)] at hq;refine nU hB ?_ q hq;exact ⟨p,hp,rfl⟩)
    have hne1:put k.p (p.aU (aO p)) ≠ []:=List.ne_nil_of_mem hq;split
    · exact ⟨⟨hi.tab,hi.n6,hi.tn.perm (zE _),zD hi.tl,hi.so,hi.al,hi.hr,hi.h64,hi.hp,hi.po⟩,(hto.t _).mono (by omega),.inl ⟨hg,hne1⟩⟩
    split
    · have ha:=hi.asks (p:=p.aU (aO p)) hq h1 hcw;have hta:=hto.trans (hi.qLa (p:=p.aU (aO p)) hq h1 hcw)
      have hl:Life (Kn.asks {k with p:=put k.p (p.aU (aO p))} (p.aU (aO p)) (p.aU (aO p)).from_):=by
       rcases ha.life with g|g
       · exact .inl ⟨g.1.trans hg,g.2⟩
       · exact .inr g
      split
      · exact ⟨⟨ha.inv.tab,ha.inv.n6,ha.inv.tn.perm (zE _),zD ha.inv.tl,ha.inv.so,ha.inv.al,ha.inv.hr,ha.inv.h64,ha.inv.hp,ha.inv.po⟩,(hta.t _).mono (by omega),hl⟩
      · exact ⟨ha.inv,hta.mono (by omega),hl⟩
    · have he:=(h.xC hp (128 + (aO p).t) (aO p).t).mono (b:=2) (by omega);rw [hpid] at he;by_cases h1p:pid=1
      · subst h1p;refine ⟨h.qUi _ _,he,.inr ⟨?_,by unfold ends;rw [if_pos rfl]⟩⟩;unfold ends;rw [if_pos rfl];show 1 + (aO p).t ≠ 0
        omega
      · have hE:=h.qJr hp (by omega) (by omega) (128 + (aO p).t) (aO p).t;rw [hpid] at hE;exact ⟨hE.inv,he,.inl ⟨hE.gone.trans hg,hE.ne⟩⟩
  · exact absurd hmem hbad
structure qVs (k k':aI):Prop where
 inv:Inv [] k'
 life:Life k'
 told:∃ k2,Told 14 {k with sent:=[],want:=0} k2∧k'={k2 with now:=til k.now 1}
theorem Inv.step (h:Inv [] k) (hl:Life k):qVs k (Kn.step k):=by
 unfold Kn.step;dsimp only;have h1:Inv [] {k with sent:=[],want:=0}:=h.same rfl rfl rfl rfl rfl rfl;split
 · next hg=>
   have hne:k.p ≠ []:=by
    rcases hl with g|g
    · exact g.2
    · exact absurd hg g.1
   have hw:=h1.jA;have hgo:=hw.inv.goes (hw.gone.trans hg) (hw.ne hne);have ht:=hw.told.trans hgo.told;refine ⟨hgo.inv.same rfl rfl rfl rfl rfl rfl,hgo.life,_,ht,?_⟩;rw [ht.now]
 · next hg=> exact ⟨h1.same rfl rfl rfl rfl rfl rfl,hl,_,(Told.refl _).mono (Nat.zero_le _),rfl⟩
theorem Inv.dI (h:Inv D k) (n:Int) (body:ByteArray) (at_:Int):Inv D (Kn.dI k n body at_):=by
 unfold Kn.dI;split
 · exact h
 · split
   · exact h.same rfl rfl rfl rfl rfl rfl
   · exact h
theorem qRy (mem:Int) (images:List ByteArray) (outs ins:List cS) (now:Int):Inv [] (eK mem images outs ins now)∧Life (eK mem images outs ins now):=by
 unfold eK;dsimp only
 have hr:∀ m:Int,0≤m→eO m []=true:=fun m h0=> by
  unfold eO;rw [Bool.and_eq_true];exact ⟨rfl,by simpa using h0⟩
 generalize hk0:({p:=[],t:=⟨[],0⟩,s:=[],aG:=[],hs:=if mem<0 then 0 else mem,h:=[],now:=now,images:=images,outs:=outs,ins_:=ins,box:=List.replicate ins.length ⟨[],0⟩,cons:=⟨#[]⟩,trace:=[],sent:=[],want:=0,gone:=0}:aI)=k0;have hg:k0.gone=0:=by rw [← hk0]
 have hp:k0.p=[]:=by rw [← hk0]
 have h0:Inv [] k0:=by
  rw [← hk0];exact ⟨iW.nil,Nat.zero_le _,Keys.nil _,⟨show (0:Int)≤0 by decide,show (0:Int)≤5 by decide⟩,List.Pairwise.nil,Keys.nil _,hr _ (by dsimp only;split <;> omega),fun s hs=> (nomatch hs),Keys.nil _,⟨fun i q hq=> by simp at hq,Nat.zero_le _,fun n e _=> rfl⟩⟩
 by_cases hi:dA k0 0=0
 · rw [if_pos hi,if_pos hi];have z:=jV;have hF:sA [] k0 (fresh k0 {Proc.zero with mem:=eG k0 0}):=h0.fresh (p:={Proc.zero with mem:=eG k0 0}) (nQ hi) ⟨sK.rs,z,z,z,z,z⟩ (.inl ⟨hp,rfl⟩) (fun n e hn=> qFc ⟨rfl,rfl,rfl,rfl,rfl,rfl,rfl,rfl⟩ n e (by omega));by_cases he:fN k0=0
   · rw [if_pos he];exact ⟨hF.inv,.inl ⟨hF.gone.trans hg,hF.ne he⟩⟩
   · rw [if_neg he];refine ⟨hF.inv.same rfl rfl rfl rfl rfl rfl,.inr ⟨show (1:Int) ≠ 0 by decide,?_⟩⟩;show (fresh k0 _).p=[]
     unfold fN at he;unfold Kn.fresh;split
     · exact hp
     · next h6=>
       rw [if_neg h6] at he;rw [if_neg he];exact hp
 · rw [if_neg hi,if_neg hi,if_neg hi];exact ⟨h0.same rfl rfl rfl rfl rfl rfl,.inr ⟨show (1:Int) ≠ 0 by decide,hp⟩⟩
