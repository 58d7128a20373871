/- What a cycle of the machine keeps. Conditions: as told. -/
import Derived.Test.YtfncknignkndiaaGreatDoorGHc
set_option linter.unusedVariables false
set_option linter.unusedSimpArgs false
namespace Go.Proofs.YtfncknignkndiaaGreatDoor
open Tryz
open Go.RowKit KR Kn RegT3
namespace Hy
def xO (n who:Nat) (m:cX):Prop:=∀ s,m.seats[who]? =some s→s.st=1→uU (cP (partOf (m.p.ps.getD who [])) s).k.sent∧n + 1 + (cP (partOf (m.p.ps.getD who [])) s).k.sent.length≤50000∧oZ (partOf (m.p.ps.getD who []))∧qOj ((cP (partOf (m.p.ps.getD who [])) s).k.sent.foldl (eL who) (jS who s m))
theorem qEf (m:cX):(gA m).p=m.p∧(gA m).sched=m.sched∧(gA m).next=m.next∧(gA m).now=m.now∧(gA m).arr=m.arr∧(gA m).owner= -1∧(gA m).seats.length=m.seats.length:=by
 unfold gA;split
 · split
   · exact ⟨rfl,rfl,rfl,rfl,rfl,rfl,List.length_set⟩
   · exact ⟨rfl,rfl,rfl,rfl,rfl,rfl,rfl⟩
 · exact ⟨rfl,rfl,rfl,rfl,rfl,rfl,rfl⟩
theorem dP.win {n:Nat} {m:cX} (h:dP n m):dP n (gA m):=by
 obtain ⟨e1,e2,e3,e4,e5,e6,e7⟩:=qEf m;refine ⟨by rw [e1];exact h.ck,by rw [e7,e1];exact h.sl,by rw [e5,e1];exact h.al,fun s hs=> ?_,by rw [e5];exact h.ar,by rw [e2,e1];exact h.sc,by rw [e3];exact h.nx0,by rw [e3,e1];exact h.nx1,by rw [e4];exact h.nw0,by rw [e4];exact h.nw1⟩;unfold gA at hs;split at hs
 · split at hs
   · next t ht=>
     rcases List.mem_or_eq_of_mem_set hs with hs|rfl
     · exact h.sg s hs
     · exact (h.sg t (List.mem_of_getElem? ht)).qBp
   · exact h.sg s hs
 · exact h.sg s hs
theorem qT (who:Nat):∀ (l:List Out) (m:cX),(l.foldl (eL who) m).sched=m.sched∧(l.foldl (eL who) m).now=m.now
 |[],_=> ⟨rfl,rfl⟩
 |o::l,m=> ⟨(qT who l (eL who m o)).1.trans (qO who m o).2.1,(qT who l (eL who m o)).2.trans (qO who m o).2.2.2.1⟩
theorem qEe (who:Nat) (m:cX):(mC who m).p=m.p∧(mC who m).sched=m.sched∧(mC who m).now=m.now:=by
 unfold mC;split
 · split <;> exact ⟨rfl,rfl,rfl⟩
 · exact ⟨rfl,rfl,rfl⟩
theorem pF (who:Nat) (m:cX):(lM who m).p=m.p∧(lM who m).sched=m.sched∧(lM who m).now=m.now:=by
 cases hs:m.seats[who]? with
 |none=> unfold lM;rw [hs];exact ⟨rfl,rfl,rfl⟩
 |some s=>
  rw [lW hs];obtain ⟨e1,e2,e3⟩:=qEe who ((cP (partOf (m.p.ps.getD who [])) s).k.sent.foldl (eL who) (jS who s m));obtain ⟨f2,f3⟩:=qT who (cP (partOf (m.p.ps.getD who [])) s).k.sent (jS who s m);exact ⟨e1.trans (uP who _ _),e2.trans f2,e3.trans f3⟩
theorem dP.wants {n:Nat} {m:cX} (h:dP n m) (who:Nat):dP n (mC who m):=by
 unfold mC;split
 · split
   · next hc=> exact ⟨h.ck,h.sl,h.al,h.sg,h.ar,h.sc,hc.2.1,hc.2.2,h.nw0,h.nw1⟩
   · exact h
 · exact h
theorem dP.jS {n who:Nat} {s:dU} {m:cX} (hg:dP n m) (hs:m.seats[who]? =some s) (hp:oZ (partOf (m.p.ps.getD who []))) (hn:n≤1000000):dP (n + 1) (jS who s m):=⟨hg.ck,by show (m.seats.set _ _).length=_;rw [List.length_set];exact hg.sl,hg.al,fun t ht=> by
 rcases List.mem_or_eq_of_mem_set ht with ht|rfl
 · exact (hg.sg t ht).mono (Nat.le_succ n)
 · exact (hg.sg s (List.mem_of_getElem? hs)).nP hp hn,fun a ha=> Nat.le_succ_of_le (hg.ar a ha),hg.sc,hg.nx0,hg.nx1,hg.nw0,by have:=hg.nw1;show m.now≤_;omega⟩
theorem dP.nP {n who:Nat} {s:dU} {m:cX} (hg:dP n m) (hs:m.seats[who]? =some s) (hp:oZ (partOf (m.p.ps.getD who []))) (hso:uU (cP (partOf (m.p.ps.getD who [])) s).k.sent) (hn:n≤1000000):dP (n + 1 + (cP (partOf (m.p.ps.getD who [])) s).k.sent.length) (lM who m):=by
 rw [lW hs];exact ((hg.jS hs hp hn).gZ hso).wants who
end Hy
end Go.Proofs.YtfncknignkndiaaGreatDoor
namespace Go.Proofs.YtfncknignkndiaaGreatDoor
open Tryz
open Go.RowKit KR Kn
namespace Kn
open Hy
theorem qMh {m:ByteArray} {a n:Int} (ha:W32 a) (hn:W32 n):(Sg.sY m a n).size≤140737488355328:=by
 unfold W32 at ha hn;unfold Sg.sY;split
 · rw [ByteArray.size_extract];omega
 · exact Nat.zero_le _
def SO (k:aI):Prop:=∀ o ∈ k.sent,0≤o.port∧o.port≤4294967295∧o.body.size≤140737488355328∧∃ c,k.outs[o.port.toNat]? =some c∧(o.body.size:Int)≤c.size
theorem SO.ok {k:aI} (h:SO k):uU k.sent:=fun o ho=> ⟨(h o ho).1,(h o ho).2.1,(h o ho).2.2.1⟩
theorem SO.same {k k':aI} (h:SO k) (e:k'.sent=k.sent∧k'.outs=k.outs):SO k':=fun o ho=> by
 rw [e.1] at ho;rw [e.2];exact h o ho
theorem qBk {k:aI} {p:Proc} {x:Call} (hx:tO x) (h:SO k):SO (aW k p x).k:=by
 have ha:=hx.a;unfold W32 at ha;unfold aW;split
 · unfold wait;split
   · exact h
   · split <;> exact h
 split
 · exact h
 split
 · exact h
 split
 · exact h
 split
 · unfold aG;repeat' split
   all_goals exact h
 split
 · unfold writes;dsimp only;repeat' split
   all_goals exact h
 split
 · unfold reads;dsimp only;repeat' split
   all_goals exact h
 split
 · unfold gM;split <;> exact h
 split
 · unfold gZ;split
   · exact h
   · next c hc=>
     split
     · exact h
     · split
       · exact h
       · next hz=>
         intro o ho;rcases List.mem_append.1 ho with ho|ho
         · exact h o ho
         · rw [List.mem_singleton] at ho;subst ho;exact ⟨ha.1,by show x.a≤_;omega,qMh hx.b hx.c,c,hc,by show (((Sg.sY p.mem x.b x.c).size:Nat):Int)≤c.size;omega⟩
 split
 · unfold mH;repeat' split
   all_goals exact h
 · exact h
theorem tI {k:aI} {pid:Int} {x:Call} (hx:tO x) (h:SO k):SO (tries k pid x):=by
 unfold tries;dsimp only;split
 · exact qBk hx h
 · exact qBk hx h
theorem qIs (k:aI) (pid:Int):(iY k pid).sent=k.sent∧(iY k pid).outs=k.outs:=by
 unfold iY;split
 · split <;> exact ⟨rfl,rfl⟩
 · exact ⟨rfl,rfl⟩
theorem zG:∀ (l:List Int) {k:aI},SO k→SO (l.foldl iY k)
 |[],_,h=> h
 |a::l,k,h=> zG l (h.same (qIs k a))
theorem qIu {k:aI} {p:Proc} (hp:lU p) (h:SO k):SO (iZ k p):=by
 unfold iZ;split
 · split
   · exact tI (qAz hp) h
   · exact tI (qAz hp) h
 · exact h
theorem zH:∀ (l:List Proc) {k:aI},(∀ p ∈ l,lU p)→SO k→SO (l.foldl iZ k)
 |[],_,_,h=> h
 |p::l,_,hl,h=> zH l (fun q hq=> hl q (List.mem_cons_of_mem _ hq)) (qIu (hl p List.mem_cons_self) h)
theorem qIw {k:aI} (h:Inv [] k):Inv [] (cU k):=by
 have h0:=h.due k.now;rw [← List.append_nil (Kn.due k.s k.now)] at h0;exact (Inv.cU _ h0).inv
theorem qIy {k:aI} (hi:Inv [] k) (h:SO k):SO (jA k):=zH _ (qIw hi).tab.wd (zG _ h)
theorem sF (k:aI) (pid code why:Int):((ends k pid code why).sent=k.sent∧(ends k pid code why).outs=k.outs)∧(ends k pid code why).want=k.want:=by
 unfold ends;dsimp only;split
 · exact ⟨⟨rfl,rfl⟩,rfl⟩
 · split <;> exact ⟨⟨rfl,rfl⟩,rfl⟩
theorem pD (k:aI) (p:Proc):((fresh k p).sent=k.sent∧(fresh k p).outs=k.outs)∧(fresh k p).want=k.want:=by
 unfold fresh;split
 · exact ⟨⟨rfl,rfl⟩,rfl⟩
 · split <;> exact ⟨⟨rfl,rfl⟩,rfl⟩
theorem qIa (k:aI) (p:Proc) (x:Call):((jR k p x).sent=k.sent∧(jR k p x).outs=k.outs)∧(jR k p x).want=k.want:=by
 unfold jR;dsimp only;split
 · exact ⟨⟨rfl,rfl⟩,rfl⟩
 · split
   · exact ⟨⟨rfl,rfl⟩,rfl⟩
   · split
     · exact sF _ _ _ _
     · exact sF _ _ _ _
def qFe (k:aI):Prop:=SO k∧0≤k.want∧k.want≤5
theorem qKz {k:aI} {p:Proc} {x:Call} (hx:tO x) (h:SO k) (h0:k.want=0):qFe (asks k p x):=by
 have ha:=hx.a;unfold W32 at ha;have hz:∀ {k':aI},(k'.sent=k.sent∧k'.outs=k.outs)∧k'.want=k.want→qFe k':=fun ⟨e1,e2⟩=> ⟨h.same e1,by rw [e2];omega,by rw [e2];omega⟩
 unfold asks;by_cases n1:x.n=1
 · rw [if_pos n1];exact hz (sF _ _ _ _)
 rw [if_neg n1];by_cases n7:x.n=7
 · rw [if_pos n7];exact hz ⟨⟨rfl,rfl⟩,rfl⟩
 rw [if_neg n7];by_cases n8:x.n=8
 · rw [if_pos n8];by_cases h8:0<x.a
   · rw [if_pos h8];exact hz ⟨⟨rfl,rfl⟩,rfl⟩
   · rw [if_neg h8];exact hz ⟨⟨rfl,rfl⟩,rfl⟩
 rw [if_neg n8];by_cases n20:x.n=20
 · rw [if_pos n20];by_cases h3:3≤x.a
   · rw [if_pos h3];exact hz ⟨⟨rfl,rfl⟩,rfl⟩
   · rw [if_neg h3];exact ⟨h,(show 0≤3 + x.a by omega),(show 3 + x.a≤5 by omega)⟩
 rw [if_neg n20];by_cases n19:x.n=19
 · rw [if_pos n19];exact ⟨h,(show 0≤k.want + 1 + 1 by omega),(show k.want + 1 + 1≤5 by omega)⟩
 rw [if_neg n19];by_cases n18:x.n=18
 · rw [if_pos n18];exact ⟨h,(show 0≤k.want + 1 by omega),(show k.want + 1≤5 by omega)⟩
 rw [if_neg n18];by_cases n5:x.n=5
 · rw [if_pos n5];exact hz (qIa _ _ _)
 rw [if_neg n5];by_cases n3:x.n=3
 · rw [if_pos n3];exact hz (pD k (lK p))
 rw [if_neg n3];by_cases n2:x.n=2
 · rw [if_pos n2];by_cases h2:dA k x.a=0
   · rw [if_pos h2];exact hz (pD k (lE p (eG k x.a)))
   · rw [if_neg h2];exact hz ⟨⟨rfl,rfl⟩,rfl⟩
 rw [if_neg n2];by_cases n17:x.n=17
 · rw [if_pos n17];exact hz ⟨⟨rfl,rfl⟩,rfl⟩
 rw [if_neg n17];have hw:=tJ k p.pid x;have hA:qFe (tries k p.pid x):=⟨tI hx h,by rw [hw];omega,by rw [hw];omega⟩
 by_cases hb:eM k p.pid x=true
 · rw [if_pos hb];exact hA
 · rw [if_neg hb];exact hA
theorem qLt {k:aI} (hi:Inv [] k) (h:SO k) (h0:k.want=0):qFe (goes k):=by
 unfold goes;cases htl:k.t.l with
 |nil=> exact ⟨h,by show 0≤k.want;omega,by show k.want≤5;omega⟩
 |cons pid r=>
  dsimp only;obtain ⟨p,hp,hpid,h1⟩:=(hi.tn.2 pid).1 (by rw [htl];exact List.mem_cons_self);rw [gQ hi.tab.so hp hpid];dsimp only [Option.getD_some];obtain ⟨_,_,_,hcw⟩:=hi.qKo hp h1;have hA:=qKz (k:={k with p:=put k.p (p.aU (aO p))}) (p:=p.aU (aO p)) hcw h h0;split
  · exact ⟨h,by show 0≤k.want;omega,by show k.want≤5;omega⟩
  · split
    · split
      · exact hA
      · exact hA
    · obtain ⟨e1,e2⟩:=sF k pid (128 + (aO p).t) (aO p).t;exact ⟨h.same e1,by rw [e2];omega,by rw [e2];omega⟩
theorem qMr {n:Nat} {k:aI} (hg:Good n k):qFe (step k):=by
 have h1:Inv [] {k with sent:=[],want:=0}:=hg.inv.same rfl rfl rfl rfl rfl rfl;have hn:∀ {k':aI},k'.sent=[]→SO k':=fun e o ho=> by rw [e] at ho;cases ho
 unfold step;dsimp only;split
 · exact qLt h1.jA.inv (qIy h1 (hn rfl)) (qBn _)
 · exact ⟨hn rfl,Int.le_refl 0,show (0:Int)≤5 by decide⟩
theorem qU (x:Part) (s:dU):((jC x s).k.sent=s.k.sent∧(jC x s).k.outs=s.k.outs)∧(jC x s).k.want=s.k.want:=by
 unfold jC;split
 · exact ⟨⟨rfl,rfl⟩,rfl⟩
 · split
   · exact ⟨⟨rfl,rfl⟩,rfl⟩
   · split
     · exact ⟨⟨rfl,qBa _ _⟩,rfl⟩
     · exact ⟨⟨rfl,rfl⟩,rfl⟩
theorem qS {n:Nat} {x:Part} {s:dU} (hg:iV n s) (h1:s.st=1):SO (cP x s).k∧(cP x s).k.sent.length≤14∧0≤(cP x s).k.want∧(cP x s).k.want≤5:=by
 unfold cP;rw [if_pos h1];obtain ⟨e1,e2⟩:=qU x (oS s);have h:=qMr hg.k;refine ⟨SO.same (k:=(oS s).k) h.1 e1,?_,?_,?_⟩
 · rw [e1.1];exact hg.k.step.se
 · rw [e2];exact h.2.1
 · rw [e2];exact h.2.2
end Kn
namespace Hy
def gB (m:cX):Prop:=∀ t ∈ m.seats,0≤t.k.want∧t.k.want≤5
theorem qFk (k:aI) (j:Int) (body:ByteArray) (at_:Int):(dI k j body at_).want=k.want:=by
 unfold dI;split
 · rfl
 · split <;> rfl
theorem gB.send {m:cX} (h:gB m) (who:Nat) (o:Out):gB (eL who m o):=by
 unfold eL;split
 · exact h
 · split
   · next t a ht ha=>
     intro s hs;rcases List.mem_or_eq_of_mem_set hs with hs|rfl
     · exact h s hs
     · show 0≤(dI t.k _ _ _).want∧(dI t.k _ _ _).want≤5
       rw [qFk];exact h t (List.mem_of_getElem? ht)
   · exact h
theorem gB.gZ {who:Nat}:∀ {l:List Out} {m:cX},gB m→gB (l.foldl (eL who) m)
 |[],_,h=> h
 |o::l,m,h=> (gB.gZ (l:=l) (h.send who o):gB (l.foldl (eL who) (eL who m o)))
theorem gB.jS {m:cX} (h:gB m) {n who:Nat} {s:dU} (hg:iV n s) (h1:s.st=1):gB (jS who s m):=by
 intro t ht;rcases List.mem_or_eq_of_mem_set ht with ht|rfl
 · exact h t ht
 · exact (qS hg h1).2.2
theorem gB.win {m:cX} (h:gB m):gB (gA m):=by
 unfold gA;split
 · split
   · next t ht=>
     intro s hs;rcases List.mem_or_eq_of_mem_set hs with hs|rfl
     · exact h s hs
     · have:=h t (List.mem_of_getElem? ht)
       unfold fP;split <;> exact this
   · exact h
 · exact h
theorem gB.nP {m:cX} (h:gB m) {n who:Nat} {s:dU} (hs:m.seats[who]? =some s) (hg:iV n s) (h1:s.st=1):gB (lM who m):=by
 rw [lW hs];have h2:gB ((cP (partOf (m.p.ps.getD who [])) s).k.sent.foldl (eL who) (Hy.jS who s m)):=(h.jS hg h1).gZ;unfold mC;split
 · split
   · exact h2
   · exact h2
 · exact h2
theorem qOr {n who:Nat} {m:cX} (hg:dP n m) (hw:gB m) (hn:n + 15≤50000):xO n who m:=by
 intro s hs h1;have hsg:=hg.sg s (List.mem_of_getElem? hs);obtain ⟨a,b,_⟩:=qS (x:=partOf (m.p.ps.getD who [])) hsg h1;refine ⟨a.ok,by omega,zZ hg.ck who,fun t ht=> ?_⟩;have:=(hw.jS hsg h1 (who:=who)).gZ (who:=who) (l:=(cP (partOf (m.p.ps.getD who [])) s).k.sent) t ht
 omega
theorem dP.step {n:Nat} {m:cX} (hg:dP n m) (hw:gB m) (hn:n + 15≤50000):dP (n + 15) (gY m)∧gB (gY m):=by
 have h1:=hg.win;have w1:=hw.win
 have ho:dP (n + 15) (oQ m)∧gB (oQ m)∧(oQ m).now=m.now:=by
  have e:=(qEf m).2.2.2.1;unfold oQ;split
  · split
    · next s hs=>
      split
      · next h=>
        obtain ⟨a,b,c⟩:=qOr (who:=(wAt m.p m.sched m.now).1.toNat) h1 w1 hn s hs h;have hc:=dP.nP h1 hs c.1 a (by omega);have h14:=(qS (x:=partOf ((gA m).p.ps.getD (wAt m.p m.sched m.now).1.toNat [])) (h1.sg s (List.mem_of_getElem? hs)) h).2.1;have hc:=hc.mono (k:=n + 15) (by omega);exact ⟨⟨hc.ck,hc.sl,hc.al,hc.sg,hc.ar,hc.sc,hc.nx0,hc.nx1,hc.nw0,hc.nw1⟩,w1.nP hs (h1.sg s (List.mem_of_getElem? hs)) h,((pF _ _).2.2).trans e⟩
      · have hc:=h1.mono (k:=n + 15) (by omega);exact ⟨⟨hc.ck,hc.sl,hc.al,hc.sg,hc.ar,hc.sc,hc.nx0,hc.nx1,hc.nw0,hc.nw1⟩,w1,e⟩
    · exact ⟨h1.mono (by omega),w1,e⟩
  · exact ⟨h1.mono (by omega),w1,e⟩
 obtain ⟨g,w,e⟩:=ho;have:=hg.nw0
 have:=hg.nw1
 have hx:=g.nx0;have hy:=g.nx1;unfold gY qCw;split
 · exact ⟨⟨g.ck,g.sl,g.al,g.sg,g.ar,(show (oQ m).next.toNat<(oQ m).p.ws.length by omega),g.nx0,g.nx1,by show 0≤(oQ m).now + 1;omega,by show (oQ m).now + 1≤_;omega⟩,w⟩
 · exact ⟨⟨g.ck,g.sl,g.al,g.sg,g.ar,g.sc,g.nx0,g.nx1,by show 0≤(oQ m).now + 1;omega,by show (oQ m).now + 1≤_;omega⟩,w⟩
theorem dP.run:∀ {k n:Nat} {m:cX},dP n m→gB m→n + 15 * k≤50000→dP (n + 15 * k) (jO k m)∧gB (jO k m)
 |0,_,_,hg,hw,_=> ⟨hg,hw⟩
 |k + 1,n,m,hg,hw,hn=> by
  obtain ⟨h1,h2⟩:=hg.step hw (by omega);have h3:=dP.run (k:=k) h1 h2 (by omega);rw [show n + 15 * (k + 1)=n + 15 + 15 * k by omega];exact h3
end Hy
end Go.Proofs.YtfncknignkndiaaGreatDoor
namespace Go.Proofs.YtfncknignkndiaaGreatDoor
open Tryz
open Go.RowKit KR Kn RegT3
namespace Hy
theorem mT {P:Prop} (h:P:=by
 obtain ⟨nx,hnx⟩:∃ nx:Nat,m5.next=(nx:Int):=⟨m5.next.toNat,by have:=HN5.out.2.2;omega⟩
 have HPM5:Hid (∀ W,Below w.heap.size w W→iF W y5.vp y5.vw y5.vc m5.p):=hU (by rw [HV5.out.1,HV5.out.2.1,HV5.out.2.2.1,HN5.out.1];exact HPL.out);have HTK:Hid (gY m=if (m5.now + 1) % m5.p.fr=0 then {m5 with now:=m5.now + 1,sched:=nx} else {m5 with now:=m5.now + 1}):=hU (by unfold gY qCw;rw [HMO.out,hnx,Int.toNat_natCast]);have hf1:1≤m5.p.fr:=by rw [HN5.out.1];exact HFR.out.1
 have hf2:m5.p.fr≤4096:=by rw [HN5.out.1];exact HFR.out.2
 have hw0:0≤m5.now:=by rw [HN5.out.2.1];exact h0
 have hw1:m5.now≤50000:=by rw [HN5.out.2.1];omega
 have p5:Wn.cell? ⟨w.heap.size,5,none⟩=some (.int .u64 m5.now):=aC HQ5.out 5
 repeat' (first
  |(refine aP (t:=35) (v:=.int .u64 (m5.now + 1)) (off:=5) (new:=aS y5 {m5 with now:=m5.now + 1}) rfl rfl rfl rfl qIf HQ5.out rfl rfl (show 5 + 1≤11 by decide) rfl ?_;intro Wn hp
    have hB:=Below.put HB.out hp (Nat.le_refl _);have HY6:Hid (cW Wn y5 {m5 with now:=m5.now + 1}):=hU (cW.put (⟨HY5.out.pl,HY5.out.im,HY5.out.se,HY5.out.sl,HY5.out.ar,HY5.out.al⟩:cW _ y5 {m5 with now:=m5.now + 1}) HQ5.out hp (HPM5.out _ hB) iX (by decide) (by decide) (by decide));replace HR:=hU ((hp.oth _ (by omega)).trans HR.out);replace HB:=hU hB;have HQ6:=pA hp;clear hB hp HY5 HQ5 p5;have p5:Wn.cell? ⟨w.heap.size,5,none⟩=some (.int .u64 (m5.now + 1)):=aC HQ6.out 5;have p1:Wn.cell? ⟨w.heap.size,1,none⟩=some (.int .i64 m5.p.fr):=aC HQ6.out 1;have p7:Wn.cell? ⟨w.heap.size,7,none⟩=some (.int .i64 nx):=by rw [← hnx];exact aC HQ6.out 7)
  |(refine aP (t:=3) (v:=.int .i64 nx) (off:=6) (new:=aS y5 {m5 with now:=m5.now + 1,sched:=nx}) rfl rfl rfl rfl cO HQ6.out rfl rfl (show 6 + 1≤11 by decide) rfl ?_;intro Wn hp
    have hB:=Below.put HB.out hp (Nat.le_refl _);have HY7:Hid (cW Wn y5 {m5 with now:=m5.now + 1,sched:=nx}):=hU (cW.put (⟨HY6.out.pl,HY6.out.im,HY6.out.se,HY6.out.sl,HY6.out.ar,HY6.out.al⟩:cW _ y5 {m5 with now:=m5.now + 1,sched:=nx}) HQ6.out hp (HPM5.out _ hB) iX (by decide) (by decide) (by decide));replace HR:=hU ((hp.oth _ (by omega)).trans HR.out);replace HB:=hU hB;have HQ7:=pA hp;clear hB hp HY6 HQ6 p5 p1 p7)
  |(refine aE (t:=61) (v:=.agg (aS y5 {m5 with now:=m5.now + 1,sched:=nx})) rfl rfl rfl (aD dZ HQ7.out rfl) ?_)
  |(refine aE (t:=61) (v:=.agg (aS y5 {m5 with now:=m5.now + 1})) rfl rfl rfl (aD dZ HQ6.out rfl) ?_)
  |(refine sN 61 (.agg (aS y5 {m5 with now:=m5.now + 1,sched:=nx})) 0 (aS y5 {m5 with now:=m5.now + 1,sched:=nx}) dZ.size HR.out (nT HY7.out) fun Wn hp=> ?_
    have hB:=Below.put HB.out hp (by omega);have HY8:=hU (HY7.out.put HR.out hp (HPM5.out _ hB) iX (by decide) (by decide) (by decide));have HR8:=pA hp;have HB8:=hU hB;clear hB hp HY7 HB HR)
  |(refine sN 61 (.agg (aS y5 {m5 with now:=m5.now + 1})) 0 (aS y5 {m5 with now:=m5.now + 1}) dZ.size HR.out (nT HY6.out) fun Wn hp=> ?_
    have hB:=Below.put HB.out hp (by omega);have HY8:=hU (HY6.out.put HR.out hp (HPM5.out _ hB) iX (by decide) (by decide) (by decide));have HR8:=pA hp;have HB8:=hU hB;clear hB hp HY6 HB HR)
  |go_values|go_skip|go_guarded|refine wg ?_|go_step|go_upon)
 all_goals
  (try simp only [Exit.inBlock,Exit.then]);refine bodyPost_ret (cJ results29 dZ rfl HR8.out rfl) rfl ?_
  rw [HTK.out];first
  |(exfalso;omega)
  |(have h9:((m5.now + 1) % m5.p.fr==0)=true:=by assumption
    rw [if_pos (by simpa using h9)];exact ⟨y5,rfl,HY8.out,HV5.out,HB8.out⟩)
  |(have h9:((m5.now + 1) % m5.p.fr==0)=false:=by assumption
    rw [if_neg (by simpa using h9)];exact ⟨y5,rfl,HY8.out,HV5.out,HB8.out⟩)
  |(have h9:¬ ((m5.now + 1) % m5.p.fr==0)=true:=by assumption
    rw [if_neg (by simpa using h9)];exact ⟨y5,rfl,HY8.out,HV5.out,HB8.out⟩)):P:=h
theorem mG {P:Prop} (h:P:=by
 have e1:(s2.st==1)=true:=by simpa using hst
 repeat' (first|go_values|go_skip|go_guarded|refine wg ?_|go_step|go_upon)
 refine (qNh w.heap.size b3 y2 m2 k s2 Wn HQ1.out H3.out HY2.out HS2.out).mono ?_;rintro er Wn ⟨rfl,hb⟩;replace HQ1:=nB hb HQ1;replace HR:=nB hb HR;replace H3:=nB hb H3;replace HY2:=hU (HY2.out.below hb);replace HB:=nW hb HB;clear hb;dsimp only;have e3:Wn.cell? ⟨b3,0,none⟩=some (.int .i64 k):=aC H3.out 0;rw [if_pos hst] at HMO;obtain ⟨c1,c2,c3,c4⟩:=HCY.out s2 HS2.out hst;have HGC:=hU (HG2.out.nP HS2.out c3 c1 (by omega));have HFC:=hU (pF k m2);have HCC:=hU (fun W (hy:cW W y2 m2) (ht:Tab W)=> qUx y2 m2 k n s2 W hy HG2.out HS2.out c1 c2 c3 c4 ht);clear c1 c2 c3 c4
 repeat' (first
  |(refine aE (t:=61) (v:=.agg (aS y2 m2)) rfl rfl rfl (aD dZ HQ1.out rfl) ?_)
  |go_values|go_skip|go_guarded|refine wg ?_|go_step|go_upon)
 refine (HCC.out _ HY2.out (HT.out _ HB.out)).mono ?_;rintro er Wn ⟨y3,rfl,hy,hyv,hb⟩;replace HQ1:=nB hb HQ1;replace HR:=nB hb HR;replace H3:=nB hb H3;replace HB:=nW hb HB;have HY3:=hU hy;have HV3:Hid (y3.vp=y.vp∧y3.vw=y.vw∧y3.vc=y.vc∧y3.im=y.im):=hU ⟨hyv.1.trans HV2.out.1,hyv.2.1.trans HV2.out.2.1,hyv.2.2.1.trans HV2.out.2.2.1,hyv.2.2.2.trans HV2.out.2.2.2⟩;have HON:=hU (nT hy);clear hb hy hyv HY2 HCC e3;obtain ⟨m3,hm3⟩:∃ m3,lM k m2=m3:=⟨_,rfl⟩
 rw [hm3] at HMO HGC HFC HY3 HON;rw [hm3];have HPM3:Hid (∀ W,Below w.heap.size w W→iF W y3.vp y3.vw y3.vc m3.p):=hU (by rw [HV3.out.1,HV3.out.2.1,HV3.out.2.2.1,HFC.out.1,HM2.out.1];exact HPL.out);have HNX:Hid (m3.p=m.p∧m3.now=m.now∧0≤m3.next):=hU ⟨HFC.out.1.trans HM2.out.1,HFC.out.2.2.trans HM2.out.2.2.2.1,HGC.out.nx0⟩;clear hm3 HGC HFC HG2 HS2;dsimp only
 repeat' (first
  |(refine sN 61 (.agg (aS y3 m3)) 0 (aS y3 m3) dZ.size HQ1.out HON.out fun Wn hp=> ?_
    have hB:=Below.put HB.out hp (Nat.le_refl _);replace HY3:=hU (HY3.out.put HQ1.out hp (HPM3.out _ hB) iX (by decide) (by decide) (by decide));replace HR:=hU ((hp.oth _ (by omega)).trans HR.out);replace H3:=pT hp HQ1 H3;replace HB:=hU hB;have HQ3:=pA hp;have e3:Wn.cell? ⟨b3,0,none⟩=some (.int .i64 k):=aC H3.out 0;clear hB hp HQ1 HON)
  |(refine aP (t:=3) (v:=.int .i64 k) (off:=10) (new:=aS y3 {m3 with owner:=(k:Int)}) rfl rfl rfl rfl cO HQ3.out rfl rfl (show 10 + 1≤11 by decide) rfl ?_;intro Wn hp
    have hB:=Below.put HB.out hp (Nat.le_refl _);have HY5:Hid (cW Wn y3 {m3 with owner:=(k:Int)}):=hU (cW.put (⟨HY3.out.pl,HY3.out.im,HY3.out.se,HY3.out.sl,HY3.out.ar,HY3.out.al⟩:cW _ y3 {m3 with owner:=(k:Int)}) HQ3.out hp (HPM3.out _ hB) iX (by decide) (by decide) (by decide));replace HR:=hU ((hp.oth _ (by omega)).trans HR.out);replace HB:=hU hB;have HQ5:=pA hp;clear hB hp HY3 HQ3 e3;obtain ⟨m5,hm5⟩:∃ m5:cX,m5={m3 with owner:=(k:Int)}:=⟨_,rfl⟩
    obtain ⟨y5,hy5⟩:∃ y5:YL,y5=y3:=⟨_,rfl⟩
    rw [← hm5,← hy5] at HQ5 HY5;rw [← hm5] at HMO;have HV5:Hid (y5.vp=y.vp∧y5.vw=y.vw∧y5.vc=y.vc∧y5.im=y.im):=hU (by rw [hy5];exact HV3.out);have HN5:Hid (m5.p=m.p∧m5.now=m.now∧0≤m5.next):=hU (by rw [hm5];exact HNX.out);clear hm5 hy5;refine Kp.out ?_)
  |go_values|go_skip|go_guarded|refine wg ?_|go_step|go_upon)
 refine ⟨?_⟩;exact mT):P:=h
theorem mN {P:Prop} (h:P:=by
 have e1:(s2.st==1)=false:=by simpa using hst
 repeat' (first|go_values|go_skip|go_guarded|refine wg ?_|go_step|go_upon)
 refine (qNh w.heap.size b3 y2 m2 k s2 Wn HQ1.out H3.out HY2.out HS2.out).mono ?_;rintro er Wn ⟨rfl,hb⟩;replace HQ1:=nB hb HQ1;replace HR:=nB hb HR;replace H3:=nB hb H3;replace HY2:=hU (HY2.out.below hb);replace HB:=nW hb HB;clear hb;dsimp only;have e3:Wn.cell? ⟨b3,0,none⟩=some (.int .i64 k):=aC H3.out 0;rw [if_neg hst] at HMO;have HV3:=HV2;have HNX:Hid (m2.p=m.p∧m2.now=m.now∧0≤m2.next):=hU ⟨HM2.out.1,HM2.out.2.2.2.1,HG2.out.nx0⟩
 repeat' (first
  |(refine aP (t:=3) (v:=.int .i64 k) (off:=10) (new:=aS y2 {m2 with owner:=(k:Int)}) rfl rfl rfl rfl cO HQ1.out rfl rfl (show 10 + 1≤11 by decide) rfl ?_;intro Wn hp
    have hB:=Below.put HB.out hp (Nat.le_refl _);have HY5:Hid (cW Wn y2 {m2 with owner:=(k:Int)}):=hU (cW.put (⟨HY2.out.pl,HY2.out.im,HY2.out.se,HY2.out.sl,HY2.out.ar,HY2.out.al⟩:cW _ y2 {m2 with owner:=(k:Int)}) HQ1.out hp (HPM.out _ hB) iX (by decide) (by decide) (by decide));replace HR:=hU ((hp.oth _ (by omega)).trans HR.out);replace HB:=hU hB;have HQ5:=pA hp;clear hB hp HY2 HQ1 e3;obtain ⟨m5,hm5⟩:∃ m5:cX,m5={m2 with owner:=(k:Int)}:=⟨_,rfl⟩
    obtain ⟨y5,hy5⟩:∃ y5:YL,y5=y2:=⟨_,rfl⟩
    rw [← hm5,← hy5] at HQ5 HY5;rw [← hm5] at HMO;have HV5:Hid (y5.vp=y.vp∧y5.vw=y.vw∧y5.vc=y.vc∧y5.im=y.im):=hU (by rw [hy5];exact HV3.out);have HN5:Hid (m5.p=m.p∧m5.now=m.now∧0≤m5.next):=hU (by rw [hm5];exact HNX.out);clear hm5 hy5;refine Kp.out ?_)
  |go_values|go_skip|go_guarded|refine wg ?_|go_step|go_upon)
 refine ⟨?_⟩;exact mT):P:=h
theorem mO {P:Prop} (h:P:=by
 have hp1:(ph==2)=false:=by simpa using hph
 rw [if_neg hph] at HMO;have HV3:=HV2;have HNX:Hid (m2.p=m.p∧m2.now=m.now∧0≤m2.next):=hU ⟨HM2.out.1,HM2.out.2.2.2.1,HG2.out.nx0⟩;have HQ5:=HQ1;have HY5:=HY2;clear HQ1 HY2;obtain ⟨m5,hm5⟩:∃ m5:cX,m5=m2:=⟨_,rfl⟩
 obtain ⟨y5,hy5⟩:∃ y5:YL,y5=y2:=⟨_,rfl⟩
 rw [← hm5,← hy5] at HQ5 HY5;rw [← hm5] at HMO;have HV5:Hid (y5.vp=y.vp∧y5.vw=y.vw∧y5.vc=y.vc∧y5.im=y.im):=hU (by rw [hy5];exact HV3.out);have HN5:Hid (m5.p=m.p∧m5.now=m.now∧0≤m5.next):=hU (by rw [hm5];exact HNX.out);clear hm5 hy5;exact mT):P:=h
theorem mP {P:Prop} (h:P:=by
 obtain ⟨l0,l1⟩:=HLT.out (by omega);obtain ⟨k,hk⟩:∃ k:Nat,(k:Int)=pt:=⟨pt.toNat,by omega⟩
 subst hk;clear hph0;subst hph;obtain ⟨s2,hs2⟩:∃ s2,m2.seats[k]? =some s2:=⟨_,List.getElem?_eq_getElem (by rw [HG2.out.sl,HM2.out.1];omega)⟩
 have HS2:=hU hs2;rw [if_pos rfl,Int.toNat_natCast,hs2] at HMO;dsimp only at HMO;rw [Int.toNat_natCast] at HCY;rw [Int.toNat_natCast] at HST0;have hst:=HST0.out s2 hs2;clear hs2 l0 l1;first|exact mG|exact mN):P:=h
theorem mM {P:Prop} (h:P:=by
 have HM2:=hU (qEf m);have HG2:=hU HGM.out.win;have HMO:Hid (oQ m=if (wAt m.p m.sched m.now).2=2 then (match (gA m).seats[(wAt m.p m.sched m.now).1.toNat]? with|some s=> {(if s.st=1 then lM (wAt m.p m.sched m.now).1.toNat (gA m) else gA m) with owner:=(wAt m.p m.sched m.now).1}|none=> gA m) else gA m):=hU rfl;rw [HPT.out.1,HPT.out.2] at HMO;obtain ⟨m2,hm2⟩:∃ m2,gA m=m2:=⟨_,rfl⟩
 rw [hm2] at HM2 HG2 HMO HCY HQ1 HY2 HST0;clear hm2 HWA HWS HSTA HH;have HPM:Hid (∀ W,Below w.heap.size w W→iF W y2.vp y2.vw y2.vc m2.p):=hU (by rw [HV2.out.1,HV2.out.2.1,HV2.out.2.2.1,HM2.out.1];exact HPL.out);have hph:=hph0;first|exact mP|exact mO):P:=h
theorem mSt {P:Prop} (h:P:=by
 obtain ⟨l0,l1⟩:=HLT.out (HSTA.out hws);obtain ⟨k,hk⟩:∃ k:Nat,(k:Int)=pt:=⟨pt.toNat,by omega⟩
 subst hk;have hks:k<m.seats.length:=by rw [HGM.out.sl];omega
 obtain ⟨s,hs⟩:∃ s,m.seats[k]? =some s:=⟨_,List.getElem?_eq_getElem hks⟩
 have HMW:Hid (gA m={m with owner:= -1,seats:=m.seats.set k (fP s)}):=hU (by
  unfold gA;rw [if_pos hws,HPT.out.1,Int.toNat_natCast,hs])
 obtain ⟨x,hx,hxs,hlx⟩:=HH.out.seat hs;obtain ⟨a8,cp8,hse8,_,_⟩:=HH.out.se.1.shape;have hel:=HH.out.se.1;rw [hse8] at hel;obtain ⟨g8,off8,hga8,hgl8,hcell8⟩:=hel.elem.2.2.2 k x hx;subst hga8;have HLX:=hU (fun W (hb:Below w.heap.size w W)=> (hxs ▸ hlx.below hb:aH W x.y x.bs s.k))
 have HC8:Hid (∀ W,Below w.heap.size w W→∀ j u,(aY x.y s)[j]? =some u→W.cell? ⟨g8,off8 + k * 19 + j,none⟩=some u):=hU (fun W hb=> by
  have h1:=hcell8 W hb;rw [show SB.cells x=aY x.y s by unfold SB.cells;rw [hxs]] at h1;exact h1)
 have HSE:=hU hse8;have hkl:k<y.ls.length:=(List.getElem?_eq_some_iff.1 hx).1;have hk0:(0:Int)≤(k:Int):=by omega
 have hk1:(k:Int)<(y.ls.length:Int):=by omega
 have hLS:y.ls.length≤1000000:=by
  rw [HH.out.len.1,HGM.out.sl];have:=(Pl.cQ HGM.out.ck).2.1
  omega
 clear hel hcell8 hse8 hx hxs hlx hgl8 hs hks l0 l1;rw [hws];repeat' (first|go_values|go_skip|go_guarded|refine wg ?_|go_step|go_upon)
 refine go0 (S:=fun W=> W.cell? ⟨w.heap.size,8,none⟩=some (.slice (some ⟨g8,off8,none⟩) y.ls.length cp8)∧W.cell? ⟨b3,0,none⟩=some (.int .i64 k)∧(∀ j u,(aY x.y s)[j]? =some u→W.cell? ⟨g8,off8 + k * 19 + j,none⟩=some u)) [11] (⟨(aC HQ1.out 8).trans (congrArg some HSE.out),aC H3.out 0,HC8.out _ HB.out.drew⟩) fun hS=> ?_;obtain ⟨Wd,hWd⟩:=exW Wn.drew;replace HQ1:=dB hWd HQ1;replace HR:=dB hWd HR;replace H3:=dB hWd H3;have hbd:Below Wn.heap.size Wn Wd:=hWd ▸ (Below.refl Wn.heap.size Wn).drew;replace HY1:=hU (HY1.out.below hbd);replace HB:=nW hbd HB;rw [hWd] at hS ⊢;clear hWd hbd;refine tp 0 ?_;(try simp only [aF])
 refine tl 1 ?_;(try simp only [aF])
 refine tl 2 ?_;(try simp only [aF])
 refine tp 3 ?_;(try simp only [aF])
 refine tl 4 ?_;(try simp only [aF])
 refine tl 5 ?_;(try simp only [aF])
 refine tp 6 ?_;(try simp only [aF])
 refine tv 7 (.agg (aY x.y s)) (fun W hSW=> aR rfl rfl (cA dN rfl hSW.2.2)) ?_;(try simp only [aF])
 clear hS;refine ro 8 fun K hK=> ?_;refine want rfl ?_;go_simp;refine (qRe (.agg (aY x.y s)) s _ ⟨x.y,x.bs,rfl,HLX.out _ HB.out⟩).mono ?_;rintro er Wn ⟨vA,rfl,⟨yA,bsA,rfl,hl⟩,hb⟩;replace HQ1:=nB hb HQ1;replace HR:=nB hb HR;replace H3:=nB hb H3;replace HY1:=hU (HY1.out.below hb);replace HB:=nW hb HB;have HLA:=hU hl;clear hb hl HLX;dsimp only;refine nx hK (⟨(aC HQ1.out 8).trans (congrArg some HSE.out),aC H3.out 0,HC8.out _ HB.out⟩) fun hS=> ?_;clear hK K hS;(try simp only [aF])
 refine ro 9 fun K hK=> ?_;refine want rfl ?_;go_simp;have hss:mL Wn y.se y.ls:=HY1.out.se;rw [HSE.out] at hss;refine (qNi _ y.ls k ⟨yA,bsA,fP s⟩ Wn hss HLA.out hkl hLS).mono ?_;rintro er Wn ⟨vs,rfl,hSe,hb⟩;replace HQ1:=nB hb HQ1;replace HR:=nB hb HR;replace H3:=nB hb H3;replace HY1:=hU (HY1.out.below hb);replace HB:=nW hb HB;have HSS:=hU hSe;clear hb hSe hss HLA;dsimp only;refine nx hK (⟨(aC HQ1.out 8).trans (congrArg some HSE.out),aC H3.out 0,HC8.out _ HB.out⟩) fun hS=> ?_;clear hK K;(try simp only [aF])
 refine tp 10 ?_;(try simp only [aF])
 clear hS;refine ro 11 fun K hK=> ?_;refine want rfl ?_;refine fU (v:=vs) (off:=8) (new:=aS {y with se:=vs,ls:=y.ls.set k ⟨yA,bsA,fP s⟩} {m with owner:= -1,seats:=m.seats.set k (fP s)}) rfl rfl rfl uI HQ1.out HSS.out.1.jF HSS.out.1.jW (show 8 + 1≤11 by decide) rfl ?_;intro Wn hp;have hB:=Below.put HB.out hp (Nat.le_refl _);have hY2:cW Wn {y with se:=vs,ls:=y.ls.set k ⟨yA,bsA,fP s⟩} {m with owner:= -1,seats:=m.seats.set k (fP s)}:=cW.put (⟨HY1.out.pl,HY1.out.im,HSS.out,by rw [List.map_set,HY1.out.sl],HY1.out.ar,HY1.out.al⟩:cW _ {y with se:=vs,ls:=y.ls.set k ⟨yA,bsA,fP s⟩} {m with owner:= -1,seats:=m.seats.set k (fP s)}) HQ1.out hp (HPL.out _ hB) iX (by decide) (by decide) (by decide);replace HR:=hU ((hp.oth _ (by omega)).trans HR.out);replace H3:=pT hp HQ1 H3;replace HB:=hU hB;replace HQ1:=pA hp;clear hB hp HY1 HSS;refine nt hK ?_;clear hK K;refine aZ (by kernel_rfl) ?_ _;(try simp only [aF])
 obtain ⟨pt,hpt2⟩:∃ pt:Int,pt=(k:Int):=⟨_,rfl⟩
 rw [← hpt2] at H3 HPT HCY HLT HST0 ⊢;obtain ⟨y2,hy2⟩:∃ y2:YL,{y with se:=vs,ls:=y.ls.set k ⟨yA,bsA,fP s⟩}=y2:=⟨_,rfl⟩
 rw [hy2] at HQ1 hY2;have HV2:Hid (y2.vp=y.vp∧y2.vw=y.vw∧y2.vc=y.vc∧y2.im=y.im):=hU (by rw [← hy2];exact ⟨rfl,rfl,rfl,rfl⟩);rw [← HMW.out] at HQ1 hY2;have HY2:=hU hY2;clear hy2 hY2 HMW HC8 HSE hk0 hk1 hkl hLS hpt2;exact mM):P:=h
theorem mSf {P:Prop} (h:P:=by
 have hmw:gA m={m with owner:= -1}:=by
  unfold gA;rw [if_neg (by rw [hws];decide)]
 obtain ⟨y2,hy2⟩:∃ y2,y2=y:=⟨_,rfl⟩
 have HV2:Hid (y2.vp=y.vp∧y2.vw=y.vw∧y2.vc=y.vc∧y2.im=y.im):=hU (by rw [hy2];exact ⟨rfl,rfl,rfl,rfl⟩);have HY2:=HY1;rw [← hmw,← hy2] at HQ1 HY2;clear hmw hy2 HY1;rw [hws];exact mM):P:=h
theorem mS {P:Prop} (h:P:=by
 obtain ⟨q0,q1⟩:=eF w w.heap.size (.cells (aS y m) 61) (.cells zSy 61) rfl;have hb0:Below w.heap.size w ((w.alloc (.cells (aS y m) 61)).alloc (.cells zSy 61)):=bel;obtain ⟨Wn,hW0⟩:∃ W0,(w.alloc (.cells (aS y m) 61)).alloc (.cells zSy 61)=W0:=⟨_,rfl⟩
 rw [hW0] at q0 q1 hb0;have HQ:=hU q0;have HR:=hU q1;have HB:=hU hb0;have HY:=hU (h.below hb0);have HT:=hU (fun W (hb:Below w.heap.size w W)=> hT.below hb);have HPL:=hU (fun W (hb:Below w.heap.size w W)=> h.pl.below hb);have hu:=(Pl.cQ hg.ck).2.2.2.2.2;have HFR:=hU (And.intro hu.1 hu.2.1);have h0:=hg.nw0;have h1:=hg.nw1;have HGM:=hU hg;have HH:=hU h;have HCY:=hU hc;have HWA:=hU (fun W (hb:Below w.heap.size w W)=> WAt y.vp y.vw y.vc m.p m.sched m.now W (h.pl.below hb).pl hg.ck hg.sc h0 (by omega));have HWS:=hU (fun W (hb:Below w.heap.size w W)=> qRw y.vp y.vw y.vc m.p m.sched m.now W (h.pl.below hb).pl hg.ck hg.sc h0 (by omega));have HLT:=hU (fun h2:(wAt m.p m.sched m.now).2 ≠ 0=> qXt hg.ck h2);have HSTA:=hU (fun h2:fQ m.p m.sched m.now=true=> qMq hg.ck h2);have p0:Wn.cell? ⟨w.heap.size,0,none⟩=some y.vp:=aC q0 0;have p1:Wn.cell? ⟨w.heap.size,1,none⟩=some (.int .i64 m.p.fr):=aC q0 1;have p2:Wn.cell? ⟨w.heap.size,2,none⟩=some y.vw:=aC q0 2;have p3:Wn.cell? ⟨w.heap.size,3,none⟩=some y.vc:=aC q0 3;have p5:Wn.cell? ⟨w.heap.size,5,none⟩=some (.int .u64 m.now):=aC q0 5;have p6:Wn.cell? ⟨w.heap.size,6,none⟩=some (.int .i64 m.sched):=aC q0 6;obtain ⟨pt,hpt⟩:∃ pt,(wAt m.p m.sched m.now).1=pt:=⟨_,rfl⟩
 obtain ⟨ph,hph⟩:∃ ph,(wAt m.p m.sched m.now).2=ph:=⟨_,rfl⟩
 rw [hpt] at HCY HLT;rw [hph] at HLT HSTA hph0;rw [hpt] at hst0;have HST0:=hU hst0;clear hst0;have HPT:=hU (And.intro hpt hph);rw [hpt,hph] at HWA;clear q0 q1 hb0 h hg hc hT hu hpt hph;go_in;repeat' (first|(rw [hW0];clear hW0)|go_values|go_skip|go_guarded|refine wg ?_|go_step|go_upon)
 refine (HWA.out _ HB.out).mono ?_;rintro er Wn ⟨rfl,hb⟩;replace HQ:=nB hb HQ;replace HR:=nB hb HR;replace HY:=hU (HY.out.below hb);replace HB:=nW hb HB;clear hb p0 p1 p2 p3 p5 p6;dsimp only;obtain ⟨b3,hab3,hbz3⟩:=nbz HB;obtain ⟨W3,hW3,hba3,HZ3⟩:=nb1 (W:=Wn) (.cells #[.int .i64 0] 3) hab3
 repeat' (first
  |(rw [hW3,hab3];clear hW3)
  |(refine aP (t:=3) (v:=.int .i64 pt) (off:=0) (new:=#[.int .i64 pt]) rfl rfl rfl rfl cO HZ3.out rfl rfl (show 0 + 1≤1 by decide) rfl ?_;intro Wn hp
    have hbb:=Below.put hba3 hp (Nat.le_of_eq hab3);replace HQ:=nB hbb HQ;replace HR:=nB hbb HR;replace HY:=hU (HY.out.below hbb);replace HB:=nW hbb HB;have H3:=pA hp;have hz3:=hlt H3.out;clear hbb hp hba3 HZ3)
  |(refine aP (t:=3) (v:=.int .i64 (-1)) (off:=10) (new:=aS y {m with owner:= -1}) rfl rfl rfl rfl cO HQ.out rfl rfl (show 10 + 1≤11 by decide) rfl ?_;intro Wn hp
    have hB:=Below.put HB.out hp (Nat.le_refl _);have HY1:Hid (cW Wn y {m with owner:= -1}):=hU (cW.put (⟨HY.out.pl,HY.out.im,HY.out.se,HY.out.sl,HY.out.ar,HY.out.al⟩:cW _ y {m with owner:= -1}) HQ.out hp (HPL.out _ hB) iX (by decide) (by decide) (by decide));replace HR:=hU ((hp.oth _ (by omega)).trans HR.out);replace H3:=pT hp HQ H3;replace HB:=hU hB;have HQ1:=pA hp;have p0:Wn.cell? ⟨w.heap.size,0,none⟩=some y.vp:=aC HQ1.out 0;have p1:Wn.cell? ⟨w.heap.size,1,none⟩=some (.int .i64 m.p.fr):=aC HQ1.out 1;have p2:Wn.cell? ⟨w.heap.size,2,none⟩=some y.vw:=aC HQ1.out 2;have p3:Wn.cell? ⟨w.heap.size,3,none⟩=some y.vc:=aC HQ1.out 3;have p5:Wn.cell? ⟨w.heap.size,5,none⟩=some (.int .u64 m.now):=aC HQ1.out 5;have p6:Wn.cell? ⟨w.heap.size,6,none⟩=some (.int .i64 m.sched):=aC HQ1.out 6;clear hB hp HY HQ)
  |go_values|go_skip|go_guarded|refine wg ?_|go_step|go_upon)
 refine (HWS.out _ HB.out).mono ?_;rintro er Wn ⟨rfl,hb⟩;replace HQ1:=nB hb HQ1;replace HR:=nB hb HR;replace H3:=nB hb H3;replace HY1:=hU (HY1.out.below hb);replace HB:=nW hb HB;clear hb p0 p1 p2 p3 p5 p6;dsimp only;first|exact mSt|exact mSf):P:=h
