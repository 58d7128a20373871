/- A guest whose rows are right, and small, is one that the methods ask for. Conditions: as told. -/
import Derived.Test.YtfncknignkndiaaGreatDoorGFit
import Derived.Test.YtfncknignkndiaaGreatDoorGInw
set_option linter.unusedVariables false
set_option linter.unusedSimpArgs false
namespace Go.Proofs.YtfncknignkndiaaGreatDoor
open Go.RowKit KR
namespace Kn
structure Bd (k:aI):Prop where
 tr:k.trace.length≤900000
 co:k.cons.size≤900000
 se:k.sent.length≤90000
 pid:∀ q ∈ k.p,q.pid≤900000
 bl:k.box.length≤1000000
 bd:∀ q ∈ k.box,∀ m ∈ q.l,m.body.size≤140737488355328
 now0:0≤k.now
 now1:k.now≤18446744073709551615
 im:k.images.length≤1000000
 hs0: -9223372036854775808≤k.hs
 hs1:k.hs≤9223372036854775807
theorem Bd.fit {D:List Int} {a:Nat} {k k':aI} (h:Bd k) (hi:Inv D k') (ht:Told a k k') (ha:a≤1000):Fit k':=by
 have hn6:=hi.n6;obtain ⟨l,l1,l2,_,l4⟩:=ht.tr;obtain ⟨s,s1,s2⟩:=ht.co;have hal:=hi.al.len;rw [List.length_append,List.length_map] at hal;have hhp:=hi.hp.len;rw [List.length_map] at hhp;have htn:=hi.tn.len;have hpo:=hi.po.n;refine ⟨by omega,by omega,⟨by have:=hi.tl;omega,by have:=hi.tl;omega⟩,by omega,by omega,fun q hq=> ?_,fun q hq=> ?_,by omega,by rw [ht.hs];exact h.hs0,by rw [ht.hs];exact h.hs1,fun q hq=> ?_,fun q hq=> by rw [hi.tab.mem q hq];omega,?_,?_,by rw [ht.bl];exact h.bl,fun q hq m hm=> ?_,?_,by rw [ht.now];exact h.now0,by rw [ht.now];exact h.now1,by rw [ht.im];exact h.im⟩
 · obtain ⟨i,hq⟩:=List.mem_iff_getElem?.1 hq;obtain ⟨h1,h2,_⟩:=hi.po.ok i q hq;have r1:=sE k'.p ((i:Int) + 1) false;have r2:=sE k'.p ((i:Int) + 1) true;omega
 · obtain ⟨i,hq⟩:=List.mem_iff_getElem?.1 hq;have:=(hi.po.ok i q hq).2.2
   omega
 · have:=ht.pid 900000 (by decide) h.pid q hq
   omega
 · rw [l1,List.length_append];have:=h.tr
   omega
 · have:=h.se
   omega
 · obtain ⟨i,hq⟩:=List.mem_iff_getElem?.1 hq;obtain ⟨b,n,b1,b2,_⟩:=ht.box i q hq;rw [b2] at hm;exact h.bd b (List.mem_of_getElem? b1) m (List.mem_of_mem_drop hm)
 · rw [s1,ByteArray.size_append];have:=h.co
   omega
theorem Bd.fresh {k:aI} (h:Bd k):Bd {k with sent:=[],want:=0}:=⟨h.tr,h.co,Nat.zero_le _,h.pid,h.bl,h.bd,h.now0,h.now1,h.im,h.hs0,h.hs1⟩
theorem qLk {x:Call} (h:tO x):nD x:=⟨h.a.1,h.a.2,h.b.1,h.b.2,h.c.1,h.c.2⟩
theorem qMi {p:Proc} (h:lU p):nD p.want:=⟨h.wa.1,h.wa.2,h.wb.1,h.wb.2,h.wc.1,h.wc.2⟩
theorem qAz {p:Proc} (h:lU p):tO p.want:=⟨h.wn,h.wa,h.wb,h.wc⟩
theorem Inv.qKo {k:aI} {p:Proc} (h:Inv [] k) (hp:p ∈ k.p) (h1:p.st=1):Inv [] {k with p:=put k.p (p.aU (aO p))}∧Told 0 k {k with p:=put k.p (p.aU (aO p))}∧find (put k.p (p.aU (aO p))) (p.aU (aO p)).pid=some (p.aU (aO p))∧tO (p.aU (aO p)).from_:=by
 rcases tM (h.tab.wd p hp) with ⟨hk,_,hcw,_⟩|hbad
 · have hi:Inv [] {k with p:=put k.p (p.aU (aO p))}:=h.change hp hk (by omega) rfl rfl rfl rfl rfl rfl rfl;have hu:put k.p (p.aU (aO p))=Kn.upd k.p (p.aU (aO p)):=fW h.tab.so hp (show p.pid=(p.aU (aO p)).pid from rfl)
   have hq:p.aU (aO p) ∈ put k.p (p.aU (aO p)):=by
    rw [hu];exact lT hp rfl
   refine ⟨hi,Told.rows rfl rfl rfl rfl rfl rfl rfl rfl rfl (fun B _ hB q hq=> ?_),hi.tab.so.find hq,hcw⟩;have hq:q ∈ put k.p (p.aU (aO p)):=hq;rw [hu] at hq;refine nU hB ?_ q hq;exact ⟨p,hp,rfl⟩
 · exact absurd (h.tab.mem p hp) hbad
theorem qIt (k:aI) (pid:Int):(iY k pid).want=k.want:=by
 unfold iY;split
 · split <;> rfl
 · rfl
theorem tJ (k:aI) (pid:Int) (x:Call):(tries k pid x).want=k.want:=by
 unfold tries;dsimp only;split
 · exact (jU k _ x).2.2.2.2.2.2.2.2
 · exact (jU k _ x).2.2.2.2.2.2.2.2
theorem qTn (k:aI) (pid:Int) (x:Call):(tries k pid x).t=k.t:=by
 unfold tries;dsimp only;split
 · exact (jU k _ x).2.1
 · exact (jU k _ x).2.1
theorem qIv (k:aI) (p:Proc):(iZ k p).want=k.want:=by
 unfold iZ;split
 · split
   · exact tJ k p.pid p.want
   · exact tJ k p.pid p.want
 · rfl
theorem xE {α:Type} (f:aI→α→aI) (hf:∀ k a,(f k a).want=k.want):∀ (l:List α) (k:aI),(l.foldl f k).want=k.want
 |[],_=> rfl
 |a::l,k=> (xE f hf l (f k a)).trans (hf k a)
theorem qBn (k:aI):(jA k).want=k.want:=(xE iZ qIv _ _).trans (xE iY qIt _ _)
end Kn
end Go.Proofs.YtfncknignkndiaaGreatDoor
namespace Go.Proofs.YtfncknignkndiaaGreatDoor
namespace Kn
structure qJf (k:aI):Prop where
 inv:Inv [] k
 life:Life k
 bd:Bd k
theorem qTi (a:Nat):∀ (b:Nat) (k:aI),run (a + b) k=run b (run a k):=by
 induction a with
 |zero=> intro b k;rw [Nat.zero_add];rfl
 |succ a ih=> intro b k;rw [Nat.add_right_comm];exact ih b (step k)
theorem qQc (n:Nat) (k:aI):run (n + 1) k=step (run n k):=qTi n 1 k
structure Good (n:Nat) (k:aI):Prop where
 inv:Inv [] k
 life:Life k
 tr:k.trace.length≤14 * n
 co:k.cons.size≤14 * n
 se:k.sent.length≤14
 pid:∀ q ∈ k.p,q.pid≤14 * n + 1
 bl:k.box.length≤100
 il:k.ins_.length≤100
 im:k.images.length≤100
 bn:∀ q ∈ k.box,q.l.length≤n∧0≤q.lost∧q.lost≤n
 bd:∀ q ∈ k.box,∀ m ∈ q.l,m.body.size≤140737488355328
 now0:0≤k.now
 now1:k.now≤18446744073709551615
 hs0: -9223372036854775808≤k.hs
 hs1:k.hs≤9223372036854775807
theorem Good.ready {n:Nat} {k:aI} (h:Good n k) (hn:n≤60000):qJf k:=
 ⟨h.inv,h.life,by have:=h.tr;omega,by have:=h.co;omega,by have:=h.se;omega,fun q hq=> by have:=h.pid q hq;omega,by have:=h.bl;omega,h.bd,h.now0,h.now1,by have:=h.im;omega,h.hs0,h.hs1⟩
theorem Good.mono {n m:Nat} {k:aI} (h:Good n k) (hn:n≤m):Good m k:=
 ⟨h.inv,h.life,by have:=h.tr;omega,by have:=h.co;omega,h.se,fun q hq=> by have:=h.pid q hq;omega,h.bl,h.il,h.im,fun q hq=> by have:=h.bn q hq;omega,h.bd,h.now0,h.now1,h.hs0,h.hs1⟩
theorem qMv {now n:Int} (h0:0≤now) (h1:now≤18446744073709551615) (hn:0≤n):now≤til now n∧0≤til now n∧til now n≤18446744073709551615:=by
 unfold til;omega
theorem Good.step {n:Nat} {k:aI} (h:Good n k):Good (n + 1) (step k):=by
 obtain ⟨hi,hl,k2,ht,he⟩:=h.inv.step h.life;obtain ⟨⟨l,t1,t2,t3,t4⟩,⟨s,s1,s2⟩,h3,h4,h5,h6,h7,h8,h9,h10⟩:=ht;have htl:=qMv h.now0 h.now1 (by decide:(0:Int)≤1);have e0:=h.tr;have e1:=h.co;refine ⟨hi,hl,?_,?_,?_,?_,?_,?_,?_,?_,?_,?_,?_,?_,?_⟩
 · rw [he];show k2.trace.length≤_
   rw [t1,List.length_append];show k.trace.length + _≤_
   omega
 · rw [he];show k2.cons.size≤_
   rw [s1,ByteArray.size_append];show k.cons.size + _≤_
   omega
 · rw [he];show k2.sent.length≤_
   have:k2.sent.length≤0 + l.length:=t4
   omega
 · rw [he];intro q hq;have:=h10 (14 * n + 1) (by omega) h.pid q hq
   omega
 · rw [he];show k2.box.length≤_
   rw [h8];exact h.bl
 · rw [he];show k2.ins_.length≤_
   rw [h6];exact h.il
 · rw [he];show k2.images.length≤_
   rw [h4];exact h.im
 · rw [he];intro q hq;obtain ⟨i,hi⟩:=List.getElem?_of_mem hq;obtain ⟨b,m,b1,b2,b3⟩:=h9 i q hi;have:=h.bn b (List.mem_of_getElem? b1)
   rw [b2,b3,List.length_drop];omega
 · rw [he];intro q hq m hm;obtain ⟨i,hi⟩:=List.getElem?_of_mem hq;obtain ⟨b,j,b1,b2,b3⟩:=h9 i q hi;rw [b2] at hm;exact h.bd b (List.mem_of_getElem? b1) m (List.mem_of_mem_drop hm)
 · rw [he];exact htl.2.1
 · rw [he];exact htl.2.2
 · rw [he];show _≤k2.hs
   rw [h7];exact h.hs0
 · rw [he];show k2.hs≤_
   rw [h7];exact h.hs1
theorem Good.run {n:Nat} {k:aI} (h:Good n k):∀ m:Nat,Good (n + m) (run m k)
 |0=> h
 |m + 1=> by
  rw [qQc];exact (Good.run h m).step
theorem Good.dI {n:Nat} {k:aI} (h:Good n k) (j:Int) (body:ByteArray) (at_:Int) (hb:body.size≤140737488355328):Good (n + 1) (dI k j body at_):=by
 have hi:=h.inv.dI j body at_;unfold Kn.dI at hi ⊢;split
 · exact h.mono (Nat.le_succ n)
 next hj=>
 rw [if_neg hj] at hi;split
 · next c b hc hb2=>
   rw [hc,hb2] at hi;dsimp only at hi;have hbn:=h.bn b (List.mem_of_getElem? hb2);have hbd:=h.bd b (List.mem_of_getElem? hb2);refine ⟨hi,h.life,by have:=h.tr;show k.trace.length≤_;omega,by have:=h.co;show k.cons.size≤_;omega,h.se,fun q hq=> by have:=h.pid q hq;omega,by show (k.box.set _ _).length≤_;rw [List.length_set];exact h.bl,h.il,h.im,?_,?_,h.now0,h.now1,h.hs0,h.hs1⟩
   · intro q hq;rcases List.mem_or_eq_of_mem_set hq with hq|rfl
     · have:=h.bn q hq
       omega
     · unfold tU;split
       · omega
       · split
         · dsimp only [List.length_singleton,List.length_cons,List.length_nil];omega
         · split
           · dsimp only;rw [List.length_append,List.length_singleton];omega
           · dsimp only;omega
   · intro q hq m hm;rcases List.mem_or_eq_of_mem_set hq with hq|rfl
     · exact h.bd q hq m hm
     · unfold tU at hm;split at hm
       · exact hbd m hm
       · split at hm
         · rw [List.mem_singleton.1 hm];exact hb
         · split at hm
           · rcases List.mem_append.1 hm with hm|hm
             · exact hbd m hm
             · rw [List.mem_singleton.1 hm];exact hb
           · exact hbd m hm
 · exact h.mono (Nat.le_succ n)
theorem qFz (k:aI) (p:Proc):(fresh k p).now=k.now∧(fresh k p).images=k.images∧(fresh k p).ins_=k.ins_∧(fresh k p).outs=k.outs∧(fresh k p).box=k.box∧(fresh k p).hs=k.hs∧(fresh k p).sent=k.sent∧(fresh k p).cons=k.cons∧(fresh k p).trace=k.trace:=by
 unfold fresh;split
 · exact ⟨rfl,rfl,rfl,rfl,rfl,rfl,rfl,rfl,rfl⟩
 · split <;> exact ⟨rfl,rfl,rfl,rfl,rfl,rfl,rfl,rfl,rfl⟩
theorem iH (mem:Int) (images:List ByteArray) (outs ins:List cS) (now:Int):(eK mem images outs ins now).now=now∧(eK mem images outs ins now).images=images∧(eK mem images outs ins now).ins_=ins∧(eK mem images outs ins now).outs=outs∧(eK mem images outs ins now).box=List.replicate ins.length ⟨[],0⟩∧(eK mem images outs ins now).hs=(if mem<0 then 0 else mem)∧(eK mem images outs ins now).sent=[]∧(eK mem images outs ins now).cons=⟨#[]⟩∧(eK mem images outs ins now).trace=[]∧∀ q ∈ (eK mem images outs ins now).p,q.pid≤1:=by
 unfold eK;dsimp only;generalize hk:aI.mk [] ⟨[],0⟩ [] [] (if mem<0 then 0 else mem) [] now images outs ins (List.replicate ins.length ⟨[],0⟩) ⟨#[]⟩ [] [] 0 0=k0
 have hf:k0.now=now∧k0.images=images∧k0.ins_=ins∧k0.outs=outs∧k0.box=List.replicate ins.length ⟨[],0⟩∧k0.hs=(if mem<0 then 0 else mem)∧k0.sent=[]∧k0.cons=⟨#[]⟩∧k0.trace=[]∧k0.p=[]:=by
  rw [← hk];exact ⟨rfl,rfl,rfl,rfl,rfl,rfl,rfl,rfl,rfl,rfl⟩
 clear hk;obtain ⟨f1,f2,f3,f4,f5,f6,f7,f8,f9,f10⟩:=hf
 have hp:∀ p:Proc,∀ q ∈ (fresh k0 p).p,q.pid≤1:=by
  intro p q hq;unfold fresh at hq;rw [f10] at hq;split at hq
  · rw [f10] at hq;cases hq
  · split at hq
    · have hpn:put [] (born p (next []))=[born p (next [])]:=qEo (fun q h=> nomatch h);dsimp only at hq;rw [hpn,List.mem_singleton] at hq;rw [hq];exact Int.le_refl _
    · rw [f10] at hq;cases hq
 have ff:∀ p:Proc,(fresh k0 p).now=now∧(fresh k0 p).images=images∧(fresh k0 p).ins_=ins∧(fresh k0 p).outs=outs∧(fresh k0 p).box=List.replicate ins.length ⟨[],0⟩∧(fresh k0 p).hs=(if mem<0 then 0 else mem)∧(fresh k0 p).sent=[]∧(fresh k0 p).cons=⟨#[]⟩∧(fresh k0 p).trace=[]∧∀ q ∈ (fresh k0 p).p,q.pid≤1:=by
  intro p;obtain ⟨g1,g2,g3,g4,g5,g6,g7,g8,g9⟩:=qFz k0 p;exact ⟨g1.trans f1,g2.trans f2,g3.trans f3,g4.trans f4,g5.trans f5,g6.trans f6,g7.trans f7,g8.trans f8,g9.trans f9,hp p⟩
 by_cases h1:dA k0 0=0
 · simp only [if_pos h1];by_cases h2:fN k0=0
   · rw [if_pos h2];exact ff _
   · rw [if_neg h2];exact ff _
 · simp only [if_neg h1];exact ⟨f1,f2,f3,f4,f5,f6,f7,f8,f9,fun q hq=> by rw [f10] at hq;cases hq⟩
theorem qCj (mem:Int) (images:List ByteArray) (outs ins:List cS) (now:Int) (h1:images.length≤100) (h2:ins.length≤100) (h3:0≤now) (h4:now≤18446744073709551615) (h5: -9223372036854775808≤mem) (h6:mem≤9223372036854775807):Good 0 (eK mem images outs ins now):=by
 obtain ⟨i1,i2⟩:=qRy mem images outs ins now;obtain ⟨e1,e2,e3,_,e4,e5,e6,e7,e8,e9⟩:=iH mem images outs ins now;refine ⟨i1,i2,by rw [e8];exact Nat.le_refl _,by rw [e7];exact Nat.le_refl _,by rw [e6];exact Nat.zero_le _,fun q hq=> by have:=e9 q hq;omega,by rw [e4,List.length_replicate];exact h2,by rw [e3];exact h2,by rw [e2];exact h1,?_,?_,by rw [e1];exact h3,by rw [e1];exact h4,by rw [e5];split <;> omega,by rw [e5];split <;> omega⟩
 · rw [e4];intro q hq;rw [List.eq_of_mem_replicate hq];exact ⟨Nat.le_refl _,Int.le_refl _,Int.le_refl _⟩
 · rw [e4];intro q hq m hm;rw [List.eq_of_mem_replicate hq] at hm;cases hm
structure Deed where
 kind:Int
 n:Int
 body:ByteArray
 at_:Int
def Deed.cells (a:Deed):Array Value:=#[.int .i64 a.kind,.int .i64 a.n,.string a.body,.int .u64 a.at_]
structure qTv where
 mem:Int
 images:List ByteArray
 outs:List cS
 ins_:List cS
 now:Int
def qTv.eK (g:qTv):aI:=Kn.eK g.mem g.images g.outs g.ins_ g.now
theorem qQf {k:aI} (h:Inv [] k) (hl:Life k):(step k).now=til k.now 1:=by
 obtain ⟨hi,hl,k2,ht,he⟩:=h.step hl;rw [he]
theorem qAh (k:aI) (j:Int) (body:ByteArray) (at_:Int):(dI k j body at_).now=k.now:=by
 unfold dI;split
 · rfl
 · split <;> rfl
theorem Keys.length {l:List Int} {ps:List Proc} {pr:Int→Prop} [DecidablePred pr] (h:Keys l ps pr) (hs:eJ ps):l.length=ps.countP (fun p=> decide (pr p.st)):=by
 have hn:((ps.filter (fun p=> decide (pr p.st))).map (·.pid)).Nodup:=by
  have:((ps.filter (fun p=> decide (pr p.st))).map (·.pid)).Pairwise (· < ·):=by
   rw [List.pairwise_map];exact List.Pairwise.filter _ hs
  exact this.imp (fun h=> by omega)
 have hp:l.Perm ((ps.filter (fun p=> decide (pr p.st))).map (·.pid)):=by
  rw [List.perm_ext_iff_of_nodup h.1 hn];intro i;rw [h.2,List.mem_map];constructor
  · rintro ⟨p,hp,he,hpr⟩;exact ⟨p,List.mem_filter.2 ⟨hp,by simpa using hpr⟩,he⟩
  · rintro ⟨p,hp,he⟩;obtain ⟨h1,h2⟩:=List.mem_filter.1 hp;exact ⟨p,h1,he,by simpa using h2⟩
 rw [hp.length_eq,List.length_map,List.countP_eq_length_filter]
section
variable {k:aI} {p:Proc}
theorem Inv.ready (h:Inv [] k):k.p.countP (fun p=> decide (p.st=1))=k.t.l.length:=(h.tn.length h.tab.so).symm
