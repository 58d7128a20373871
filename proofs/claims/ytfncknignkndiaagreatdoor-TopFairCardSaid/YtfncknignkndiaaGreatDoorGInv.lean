/- What is right of a guest's rows, in plain Lean: the table, turns, alarms. Conditions: as told. -/
import Derived.Test.YtfncknignkndiaaGreatDoorGCpuB
set_option linter.unusedVariables false
set_option linter.unusedSimpArgs false
namespace Go.Proofs.YtfncknignkndiaaGreatDoor
namespace Kn
def eJ (l:List Proc):Prop:=l.Pairwise (fun a b=> a.pid<b.pid)
def upd (l:List Proc) (p:Proc):List Proc:=l.map (fun x=> if x.pid=p.pid then p else x)
theorem uA {l:List Proc} {pid:Int} {p:Proc} (h:find l pid=some p):p ∈ l∧p.pid=pid:=by
 unfold find at h;refine ⟨List.mem_of_find?_eq_some h,?_⟩;have:=List.find?_some h
 simpa using this
theorem qEb {l:List Proc} {pid:Int} (h:find l pid=none):∀ p ∈ l,p.pid ≠ pid:=by
 intro p hp he;unfold find at h;rw [List.find?_eq_none] at h;exact h p hp (by simp [he])
theorem eJ.uniq {l:List Proc} (hs:eJ l) {p q:Proc} (hp:p ∈ l) (hq:q ∈ l) (he:p.pid=q.pid):p=q:=by
 induction l with
 |nil=> cases hp
 |cons a l ih=>
  obtain ⟨h1,h2⟩:=List.pairwise_cons.1 hs;rcases List.mem_cons.1 hp with rfl|hp' <;> rcases List.mem_cons.1 hq with rfl|hq'
  · rfl
  · have:=h1 q hq';omega
  · have:=h1 p hp';omega
  · exact ih h2 hp' hq'
theorem eJ.find {l:List Proc} (hs:eJ l) {p:Proc} (hp:p ∈ l):find l p.pid=some p:=by
 cases h:Kn.find l p.pid with
 |none=> exact absurd rfl (qEb h p hp)
 |some q=> rw [hs.uniq (uA h).1 hp (uA h).2]
theorem qDk {l:List Proc} {p:Proc} (h:∀ q ∈ l,q.pid ≠ p.pid):upd l p=l:=by
 unfold upd;conv=> rhs;rw [← List.map_id l]
 exact List.map_congr_left (fun x hx=> if_neg (h x hx))
theorem fW {l:List Proc} (hs:eJ l) {p q:Proc} (hq:q ∈ l) (he:q.pid=p.pid):put l p=upd l p:=by
 unfold put;cases hi:l.findIdx? (fun x=> x.pid==p.pid) with
 |none=>
  rw [List.findIdx?_eq_none_iff] at hi;have:=hi q hq
  simp [he] at this
 |some i=>
  dsimp only;clear hq he;induction l generalizing i with
  |nil=> cases hi
  |cons a l ih=>
   obtain ⟨h1,h2⟩:=List.pairwise_cons.1 hs;rw [List.findIdx?_cons] at hi;by_cases ha:a.pid=p.pid
   · rw [if_pos (by simp [ha])] at hi;injection hi with hi
     subst hi;show p::l=upd (a::l) p
     have:upd l p=l:=qDk (fun x hx=> by have:=h1 x hx;omega)
     show p::l=(if a.pid=p.pid then p else a)::upd l p
     rw [this,if_pos ha]
   · rw [if_neg (by simp [ha])] at hi;cases hj:l.findIdx? (fun x=> x.pid==p.pid) with
     |none=> rw [hj] at hi;cases hi
     |some j=>
      rw [hj] at hi;injection hi with hi
      subst hi;show a::l.set j p=(if a.pid=p.pid then p else a)::upd l p
      rw [if_neg ha,ih h2 j hj]
theorem qEo {l:List Proc} {p:Proc} (hb:∀ q ∈ l,q.pid<p.pid):put l p=l ++ [p]:=by
 unfold put;rw [List.findIdx?_eq_none_iff.2 (fun x hx=> by have:=hb x hx;simp;omega),List.findIdx?_eq_none_iff.2 (fun x hx=> by have:=hb x hx;simp;omega)]
theorem pG {l:List Proc} {p x:Proc} (h:x ∈ upd l p):x=p∨(x ∈ l∧x.pid ≠ p.pid):=by
 unfold upd at h;rw [List.mem_map] at h;obtain ⟨y,hy,rfl⟩:=h;by_cases he:y.pid=p.pid
 · rw [if_pos he];exact .inl rfl
 · rw [if_neg he];exact .inr ⟨hy,he⟩
theorem lT {l:List Proc} {p q:Proc} (hq:q ∈ l) (he:q.pid=p.pid):p ∈ upd l p:=
 List.mem_map.2 ⟨q,hq,if_pos he⟩
theorem nK {l:List Proc} {p q:Proc} (hq:q ∈ l) (he:q.pid ≠ p.pid):q ∈ upd l p:=
 List.mem_map.2 ⟨q,hq,if_neg he⟩
theorem qTp (l:List Proc) (p:Proc):(upd l p).map (·.pid)=l.map (·.pid):=by
 unfold upd;rw [List.map_map];refine List.map_congr_left (fun x _=> ?_);show (if x.pid=p.pid then p else x).pid=x.pid
 split
 · next h=> exact h.symm
 · rfl
theorem pP {l:List Proc}:eJ l↔(l.map (·.pid)).Pairwise (· < ·):=by
 unfold eJ;rw [List.pairwise_map]
theorem eJ.upd {l:List Proc} (hs:eJ l) (p:Proc):eJ (upd l p):=by
 rw [pP,qTp,← pP];exact hs
theorem tK (l:List Proc) (p:Proc):(upd l p).length=l.length:=List.length_map _
theorem eJ.app {l:List Proc} (hs:eJ l) {p:Proc} (hb:∀ q ∈ l,q.pid<p.pid):eJ (l ++ [p]):=by
 unfold eJ;rw [List.pairwise_append];refine ⟨hs,List.pairwise_singleton _ _,fun a ha b hb'=> ?_⟩;rw [List.mem_singleton] at hb';subst hb';exact hb a ha
theorem eJ.remove {l:List Proc} (hs:eJ l) (pid:Int):eJ (remove l pid):=List.Pairwise.filter _ hs
theorem iN {l:List Proc} {pid:Int} {x:Proc}:x ∈ remove l pid↔x ∈ l∧x.pid ≠ pid:=by
 unfold Kn.remove;rw [List.mem_filter];simp
def ado (src dst:Int) (p:Proc):Proc:=if p.par=src then {p with par:=dst} else p
theorem jG (l:List Proc) (src dst:Int):dQ l src dst=l.map (ado src dst):=rfl
theorem lA (src dst:Int) (p:Proc):(ado src dst p).pid=p.pid:=by unfold ado;split <;> rfl
theorem qAf (src dst:Int) (p:Proc):(ado src dst p).st=p.st:=by unfold ado;split <;> rfl
theorem qKw (l:List Proc) (src dst:Int):(dQ l src dst).map (·.pid)=l.map (·.pid):=by
 rw [jG,List.map_map];exact List.map_congr_left (fun x _=> lA _ _ _)
theorem eJ.dQ {l:List Proc} (hs:eJ l) (src dst:Int):eJ (dQ l src dst):=by
 rw [pP,qKw,← pP];exact hs
theorem qWy (l:List Proc) (m:Int):m≤most l m∧∀ q ∈ l,q.pid≤most l m:=by
 induction l generalizing m with
 |nil=> exact ⟨Int.le_refl _,fun q hq=> nomatch hq⟩
 |cons a l ih=>
  have:=ih (max m a.pid)
  refine ⟨Int.le_trans (by omega) this.1,fun q hq=> ?_⟩;rcases List.mem_cons.1 hq with rfl|hq
  · exact Int.le_trans (by omega) this.1
  · exact this.2 q hq
theorem qWz (l:List Proc) (m B:Int) (hm:m≤B) (h:∀ q ∈ l,q.pid≤B):most l m≤B:=by
 induction l generalizing m with
 |nil=> exact hm
 |cons a l ih=> exact ih (max m a.pid) (by have:=h a List.mem_cons_self;omega) (fun q hq=> h q (List.mem_cons_of_mem _ hq))
theorem qKa (l:List Proc):∀ q ∈ l,q.pid<next l:=fun q hq=> by have:=(qWy l 0).2 q hq;unfold next;omega
theorem qSs {l:List Proc} {B:Int} (hB:0≤B) (h:∀ q ∈ l,q.pid≤B):next l≤B + 1:=by have:=qWz l 0 B hB h;unfold next;omega
theorem qBi (t:jM) (pid i:Int):i ∈ (iE t pid).l↔i ∈ t.l∨i=pid:=by
 unfold iE;split
 · next h=>
   constructor
   · exact .inl
   · rintro (h1|rfl)
     · exact h1
     · simpa using h
 · show i ∈ t.l ++ [pid]↔_
   rw [List.mem_append,List.mem_singleton]
theorem tE {t:jM} (h:t.l.Nodup) (pid:Int):(iE t pid).l.Nodup:=by
 unfold iE;split
 · exact h
 · next hc=>
   show (t.l ++ [pid]).Nodup
   rw [List.nodup_append];refine ⟨h,by simp,fun a ha b hb=> ?_⟩;rw [List.mem_singleton] at hb;subst hb;intro he;subst he;exact hc (by simpa using ha)
theorem xN (t:jM) (pid i:Int):i ∈ (eZ t pid).l↔i ∈ t.l∧i ≠ pid:=by
 unfold eZ;split
 · show i ∈ t.l.filter _↔_
   rw [List.mem_filter];simp
 · next h=>
   constructor
   · intro hi;refine ⟨hi,fun he=> ?_⟩;subst he;exact h (by simpa using hi)
   · exact fun h=> h.1
theorem qX {t:jM} (h:t.l.Nodup) (pid:Int):(eZ t pid).l.Nodup:=by
 unfold eZ;split
 · exact List.Pairwise.filter _ h
 · exact h
theorem zF (t:jM):(jE t).l.Perm t.l:=by
 obtain ⟨l,n⟩:=t;cases l with
 |nil=> exact List.Perm.refl _
 |cons a l=>
  show (l ++ [a]).Perm (a::l)
  exact List.perm_append_singleton a l
theorem zE (t:jM):(gO t).l.Perm t.l:=by
 unfold gO;split
 · exact List.Perm.refl _
 · split
   · exact zF _
   · exact List.Perm.refl _
def jB (a b:Alarm):Prop:=a.at_<b.at_∨(a.at_=b.at_∧a.pid<b.pid)
theorem qAi (a b:Alarm):behind a b=true↔jB b a:=by
 unfold behind jB;simp only [Bool.or_eq_true,Bool.and_eq_true,decide_eq_true_eq,beq_iff_eq];constructor
 · rintro (h|⟨h1,h2⟩)
   · exact .inl h
   · exact .inr ⟨h1.symm,h2⟩
 · rintro (h|⟨h1,h2⟩)
   · exact .inl h
   · exact .inr ⟨h1.symm,h2⟩
theorem qDu {a b c:Alarm} (h1:jB a b) (h2:jB b c):jB a c:=by
 unfold jB at *;omega
theorem qDb (l:List Alarm) (a:Alarm):(pM l a).Perm (a::l):=by
 unfold pM;split
 · next i hi=>
   unfold ins;refine (List.perm_middle).trans ?_;rw [List.take_append_drop]
 · exact List.perm_append_singleton a l
theorem qGt {l:List Alarm} {a:Alarm} (h:l.Pairwise jB) (hne:∀ x ∈ l,x.pid ≠ a.pid):(pM l a).Pairwise jB:=by
 induction l with
 |nil=> exact List.pairwise_singleton _ _
 |cons x l ih=>
  obtain ⟨h1,h2⟩:=List.pairwise_cons.1 h;have ih:=ih h2 (fun y hy=> hne y (List.mem_cons_of_mem _ hy));by_cases hb:behind x a=true
  · have:pM (x::l) a=a::x::l:=by
     unfold pM;rw [List.findIdx?_cons,if_pos hb];rfl
    rw [this];have hax:=(qAi x a).1 hb
    exact List.pairwise_cons.2 ⟨fun y hy=> by
     rcases List.mem_cons.1 hy with rfl|hy
     · exact hax
     · exact qDu hax (h1 y hy),h⟩
  · have:pM (x::l) a=x::pM l a:=by
     unfold pM;rw [List.findIdx?_cons,if_neg hb];cases l.findIdx? (fun x=> behind x a) <;> rfl
    rw [this];refine List.pairwise_cons.2 ⟨fun y hy=> ?_,ih⟩;rcases List.mem_cons.1 ((qDb l a).mem_iff.1 hy) with rfl|hy
    · have hn:=hne x List.mem_cons_self
      have:¬ jB y x:=fun h=> hb ((qAi x y).2 h)
      unfold jB at *;omega
    · exact h1 y hy
theorem tY (l:List Alarm) (now:Int):due l now ++ (rest l now).map (·.pid)=l.map (·.pid):=by
 unfold due rest;rw [← List.map_append,List.takeWhile_append_dropWhile]
theorem qGq {l:List Alarm} (h:l.Pairwise jB) (now:Int):(rest l now).Pairwise jB:=h.sublist (List.dropWhile_sublist _)
theorem qEs {l:List Alarm} (h:l.Pairwise jB) (pid:Int):(lY l pid).Pairwise jB:=h.sublist List.filter_sublist
theorem qMo (l:List Alarm) (pid:Int):(lY l pid).map (·.pid)=(l.map (·.pid)).filter (fun x=> !(x==pid)):=by
 unfold lY;rw [List.filter_map];rfl
theorem qHu {size:Int} {l:List Span} {a b:Int} (h:aV size l b=true) (hab:a≤b):aV size l a=true:=by
 cases l with
 |nil=> rfl
 |cons s l=>
  unfold aV at h ⊢;simp only [Bool.and_eq_true,Bool.not_eq_true',Bool.or_eq_false_iff,decide_eq_false_iff_not] at h ⊢;refine ⟨⟨⟨⟨by omega,h.1.1.1.2⟩,h.1.1.2⟩,h.1.2⟩,h.2⟩
theorem sO {size:Int} (f:Span→Bool):∀ {l:List Span} {a:Int},aV size l a=true→aV size (l.filter f) a=true
 |[],_,h=> h
 |s::l,a,h=> by
  have h0:=h;unfold aV at h;simp only [Bool.and_eq_true,Bool.not_eq_true',Bool.or_eq_false_iff,decide_eq_false_iff_not] at h;have ih:=sO f h.2;rw [List.filter_cons];split
  · unfold aV;simp only [Bool.and_eq_true,Bool.not_eq_true',Bool.or_eq_false_iff,decide_eq_false_iff_not];exact ⟨h.1,ih⟩
  · exact qHu ih (by omega)
theorem xY {size n who:Int} (hn:1≤n):∀ {l:List Span} {c a:Int},0≤c→aV size l c=true→qK size n l c=some a→
 c≤a∧aV size (ins l (l.takeWhile (fun s=> decide (s.at_<a))).length ⟨a,n,who⟩) c=true
 |[],c,a,hc,_,h=> by
  unfold qK at h;split at h
  · next hh=>
    injection h with h
    subst h;refine ⟨Int.le_refl _,?_⟩;show aV size [⟨c,n,who⟩] c=true
    unfold aV;simp only [Bool.and_eq_true,Bool.not_eq_true',Bool.or_eq_false_iff,decide_eq_false_iff_not];exact ⟨⟨⟨⟨by omega,by omega⟩,by omega⟩,by omega⟩,rfl⟩
  · cases h
 |s::l,c,a,hc,hr,h=> by
  have hr0:=hr;unfold aV at hr;simp only [Bool.and_eq_true,Bool.not_eq_true',Bool.or_eq_false_iff,decide_eq_false_iff_not] at hr;unfold qK at h;split at h
  · next hh=>
    injection h with h
    subst h;refine ⟨Int.le_refl _,?_⟩;rw [List.takeWhile_cons,if_neg (by simp;omega)];show aV size (⟨c,n,who⟩::s::l) c=true
    unfold aV;simp only [Bool.and_eq_true,Bool.not_eq_true',Bool.or_eq_false_iff,decide_eq_false_iff_not];refine ⟨⟨⟨⟨by omega,by omega⟩,by omega⟩,by omega⟩,?_⟩;unfold aV;simp only [Bool.and_eq_true,Bool.not_eq_true',Bool.or_eq_false_iff,decide_eq_false_iff_not];exact ⟨⟨⟨⟨by omega,by omega⟩,by omega⟩,by omega⟩,hr.2⟩
  · have ih:=xY (who:=who) hn (l:=l) (c:=s.at_ + s.n) (a:=a) (by omega) hr.2 h;refine ⟨by omega,?_⟩;rw [List.takeWhile_cons,if_pos (by simp;omega)];show aV size (s::ins l (l.takeWhile (fun s=> decide (s.at_<a))).length ⟨a,n,who⟩) c=true
    unfold aV;simp only [Bool.and_eq_true,Bool.not_eq_true',Bool.or_eq_false_iff,decide_eq_false_iff_not];exact ⟨hr.1,ih.2⟩
theorem qPh {α:Type} (l:List α) (i:Nat) (x:α):(ins l i x).Perm (x::l):=by
 unfold ins;refine (List.perm_middle).trans ?_;rw [List.take_append_drop]
theorem qLw {size:Int} {l:List Span} {n who:Int} (h:(fO size l n who).2=0):∃ a,(fO size l n who).1.Perm (⟨a,n,who⟩::l)∧eO size (fO size l n who).1=true:=by
 unfold fO at h ⊢;split at h
 · exact absurd (show (1:Int)=0 from h) (by decide)
 · next hc=>
   rw [if_neg hc];have h1:1≤n:=by omega
   have hr:eO size l=true:=by
    cases hx:eO size l with
    |true=> rfl
    |false=> exact absurd (.inr hx) hc
   unfold eO at hr;rw [Bool.and_eq_true] at hr;unfold qJu at h ⊢;cases hh:qK size n l 0 with
   |none=> rw [hh] at h;exact absurd (show (5:Int)=0 from h) (by decide)
   |some a=>
    refine ⟨a,qPh _ _ _,?_⟩;show eO size (ins l _ _)=true
    unfold eO;rw [Bool.and_eq_true];exact ⟨(xY h1 (Int.le_refl 0) hr.1 hh).2,hr.2⟩
theorem qGa {size:Int} {l:List Span} (h:eO size l=true) (who:Int):eO size (gX l who)=true:=by
 unfold eO at h ⊢;rw [Bool.and_eq_true] at h ⊢;exact ⟨sO _ h.1,h.2⟩
theorem qLu (l:List Span) (who:Int):(gX l who).map (·.who)=(l.map (·.who)).filter (fun x=> !(x==who)):=by
 unfold gX;rw [List.filter_map];rfl
def fdn (p:Proc) (n:Int) (e:Bool):Int:=
 (if p.d0=n∧p.e0=e then 1 else 0) + (if p.d1=n∧p.e1=e then 1 else 0) + (if p.d2=n∧p.e2=e then 1 else 0) + (if p.d3=n∧p.e3=e then 1 else 0)
def cnt (l:List Proc) (n:Int) (e:Bool):Int:=(l.map (fun p=> fdn p n e)).sum
theorem oN (p:Proc) (n:Int) (e:Bool):0≤fdn p n e∧fdn p n e≤4:=by
 unfold fdn
 have:∀ (c:Prop) [Decidable c],(0:Int)≤(if c then 1 else 0)∧(if c then 1 else 0:Int)≤1:=fun c _=> by split <;> omega
 have h0:=this (p.d0=n∧p.e0=e);have h1:=this (p.d1=n∧p.e1=e);have h2:=this (p.d2=n∧p.e2=e);have h3:=this (p.d3=n∧p.e3=e);omega
theorem qSc (n:Int) (e:Bool):cnt [] n e=0:=rfl
theorem jI (p:Proc) (l:List Proc) (n:Int) (e:Bool):cnt (p::l) n e=fdn p n e + cnt l n e:=by
 unfold cnt;rw [List.map_cons,List.sum_cons]
theorem qSb (l r:List Proc) (n:Int) (e:Bool):cnt (l ++ r) n e=cnt l n e + cnt r n e:=by
 unfold cnt;rw [List.map_append,List.sum_append]
theorem sE (l:List Proc) (n:Int) (e:Bool):0≤cnt l n e∧cnt l n e≤4 * l.length:=by
 induction l with
 |nil=> exact ⟨Int.le_refl _,Int.le_refl _⟩
 |cons p l ih=>
  rw [jI,List.length_cons];have:=oN p n e
  omega
theorem zP {l:List Proc} (hs:eJ l) {p q:Proc} (hq:q ∈ l) (he:q.pid=p.pid) (n:Int) (e:Bool):cnt (upd l p) n e=cnt l n e - fdn q n e + fdn p n e:=by
 induction l with
 |nil=> cases hq
 |cons a l ih=>
  obtain ⟨h1,h2⟩:=List.pairwise_cons.1 hs;show cnt ((if a.pid=p.pid then p else a)::upd l p) n e=_
  by_cases ha:a.pid=p.pid
  · rw [if_pos ha,qDk (fun x hx=> by have:=h1 x hx;omega),jI,jI]
    have:q=a:=hs.uniq hq List.mem_cons_self (by omega)
    subst this;omega
  · rw [if_neg ha,jI,jI];rcases List.mem_cons.1 hq with rfl|hq
    · exact absurd he ha
    · rw [ih h2 hq];omega
theorem qHo {l:List Proc} (hs:eJ l) {q:Proc} (hq:q ∈ l) (n:Int) (e:Bool):cnt (remove l q.pid) n e=cnt l n e - fdn q n e:=by
 induction l with
 |nil=> cases hq
 |cons a l ih=>
  obtain ⟨h1,h2⟩:=List.pairwise_cons.1 hs;unfold remove;rw [List.filter_cons];by_cases ha:a.pid=q.pid
  · rw [if_neg (by simp [ha])]
    have:q=a:=hs.uniq hq List.mem_cons_self (by omega)
    subst this
    have:l.filter (fun p=> !(p.pid==q.pid))=l:=List.filter_eq_self.2 (fun x hx=> by have:=h1 x hx;simp;omega)
    rw [this,jI];omega
  · rw [if_pos (by simp [ha])];rcases List.mem_cons.1 hq with rfl|hq
    · exact absurd rfl ha
    · have:=ih h2 hq
      unfold remove at this;rw [jI,jI,this];omega
theorem qJs (src dst:Int) (p:Proc) (n:Int) (e:Bool):fdn (ado src dst p) n e=fdn p n e:=by
 unfold ado;split <;> rfl
theorem qLh (l:List Proc) (src dst:Int) (n:Int) (e:Bool):cnt (dQ l src dst) n e=cnt l n e:=by
 rw [jG];unfold cnt;rw [List.map_map];exact congrArg List.sum (List.map_congr_left (fun x _=> qJs _ _ _ _ _))
def gP (l:List cG) (f:Int→Bool→Int):Prop:=∀ (i:Nat) (q:cG),l[i]? =some q→q.rd=f ((i:Int) + 1) false∧q.wr=f ((i:Int) + 1) true∧q.data.size≤8
theorem gP.of {l:List cG} {f g:Int→Bool→Int} (h:gP l f) (he:∀ n e,1≤n→f n e=g n e):gP l g:=fun i q hq=> by
 have:=h i q hq
 rw [he _ _ (by omega),he _ _ (by omega)] at this;exact this
theorem plen (l:List cG) (d:Int) (e:Bool) (n:Int):(aM l d e n).length=l.length:=by
 unfold aM;split
 · rfl
 · rw [List.length_modify]
theorem gP.count {l:List cG} {f:Int→Bool→Int} (h:gP l f) (d:Int) (e:Bool) (b:Int):gP (aM l d e b) (fun n e'=> f n e' + if d=n∧e=e' then b else 0):=by
 intro i q hq;have hil:i<(aM l d e b).length:=(List.getElem?_eq_some_iff.1 hq).1;rw [plen] at hil;unfold aM at hq;dsimp only;split at hq
 · next hc=>
   have:=h i q hq
   rw [if_neg (by omega)];omega
 · next hc=>
   rw [List.getElem?_modify] at hq;cases hl:l[i]? with
   |none=> rw [hl] at hq;cases hq
   |some r=>
    have hr:=h i r hl;rw [hl,Option.map_eq_map,Option.map_some] at hq;injection hq with hq
    by_cases hd:(d - 1).toNat=i
    · rw [if_pos hd] at hq;have hd:d=(i:Int) + 1:=by omega
      subst hq;cases e <;> simp [hd] <;> omega
    · rw [if_neg hd] at hq;subst hq;have hd:d ≠ (i:Int) + 1:=by omega
      rw [if_neg (fun h=> hd h.1),if_neg (fun h=> hd h.1)];omega
theorem pB (l:List cG) (p:Proc) (b:Int):(eC l p b).length=l.length:=by
 unfold eC;rw [plen,plen,plen,plen]
theorem gP.eC {l:List cG} {f:Int→Bool→Int} (h:gP l f) (p:Proc) (b:Int):gP (eC l p b) (fun n e=> f n e + b * fdn p n e):=by
 refine ((((h.count p.d0 p.e0 b).count p.d1 p.e1 b).count p.d2 p.e2 b).count p.d3 p.e3 b).of (fun n e _=> ?_);unfold fdn
 have:∀ (c:Prop) [Decidable c],(if c then b else 0)=b * (if c then 1 else 0):=fun c _=> by split <;> simp
 rw [this (p.d0=n∧p.e0=e),this (p.d1=n∧p.e1=e),this (p.d2=n∧p.e2=e),this (p.d3=n∧p.e3=e),Int.mul_add,Int.mul_add,Int.mul_add];omega
theorem gP.set {l:List cG} {f:Int→Bool→Int} (h:gP l f) {j:Nat} {q p:cG} (hq:l[j]? =some q) (h1:p.rd=q.rd) (h2:p.wr=q.wr) (h3:p.data.size≤8):gP (l.set j p) f:=by
 intro i r hr;rw [List.getElem?_set] at hr;split at hr
 · next he=>
   subst he;split at hr
   · injection hr with hr
     subst hr;have:=h j q hq
     exact ⟨h1.trans this.1,h2.trans this.2.1,h3⟩
   · cases hr
 · exact h i r hr
theorem gP.make {l l2:List cG} {f:Int→Bool→Int} {n:Nat} (h:gP l f) (h0:∀ n e,0≤f n e) (hout:∀ n e,(l.length:Int)<n→f n e=0) (hm:uM l=some (l2,n)):
 gP l2 (fun m e=> f m e + if m=(n:Int) then 1 else 0)∧l.length≤l2.length∧l2.length≤max 4 l.length∧1≤n∧n≤l2.length:=by
 unfold uM at hm;cases hi:l.findIdx? qQ with
 |some i=>
  rw [hi] at hm;injection hm with hm
  injection hm with h1 h2
  subst h1;subst h2;obtain ⟨hil,hfree,_⟩:=List.findIdx?_eq_some_iff_getElem.1 hi;refine ⟨?_,by rw [List.length_set];omega,by rw [List.length_set];omega,by omega,by rw [List.length_set];omega⟩;have hq:=h i _ (List.getElem?_eq_getElem hil);unfold qQ at hfree;rw [Bool.and_eq_true,decide_eq_true_eq,decide_eq_true_eq] at hfree;have z1:=h0 ((i:Int) + 1) false;have z2:=h0 ((i:Int) + 1) true;intro j r hr;rw [List.getElem?_set] at hr;split at hr
  · next he=>
    subst he;injection hr with hr
    subst hr;dsimp only;rw [if_pos (by omega)];refine ⟨by show (1:Int)=_;omega,by show (1:Int)=_;omega,Nat.zero_le _⟩
  · next he=>
    have:=h j r hr
    dsimp only;rw [if_neg (by omega)];omega
 |none=>
  rw [hi] at hm;dsimp only at hm;split at hm
  · cases hm
  · next hlen=>
    injection hm with hm
    injection hm with h1 h2
    subst h1;subst h2;refine ⟨?_,by rw [List.length_append];omega,by rw [List.length_append,List.length_singleton];omega,by omega,by rw [List.length_append,List.length_singleton];omega⟩;intro j r hr;by_cases hj:j<l.length
    · rw [List.getElem?_append_left hj] at hr;have:=h j r hr
      dsimp only;rw [if_neg (by omega)];omega
    · have hjl:j<(l ++ [(⟨ByteArray.empty,1,1⟩:cG)]).length:=(List.getElem?_eq_some_iff.1 hr).1;rw [List.length_append,List.length_singleton] at hjl;have hje:j=l.length:=by omega
      subst hje;rw [List.getElem?_append_right (Nat.le_refl _),Nat.sub_self] at hr;injection hr with hr
      subst hr;dsimp only;rw [if_pos (by omega),hout _ _ (by omega),hout _ _ (by omega)];exact ⟨rfl,rfl,Nat.zero_le _⟩
theorem qCo {p:Proc} {a:Nat} (h:oF p=some a) (d:Int) (e:Bool) (n:Int) (e':Bool) (hn:1≤n):fdn (dH p a d e) n e'=fdn p n e' + if d=n∧e=e' then 1 else 0:=by
 unfold oF at h;unfold fdn;by_cases h0:p.d0=0
 · rw [if_pos h0] at h;injection h with h;subst h
   rw [if_neg (fun x:p.d0=n∧p.e0=e'=> by omega)];show (if d=n∧e=e' then (1:Int) else 0) + _ + _ + _=_
   simp only [dH];omega
 by_cases h1:p.d1=0
 · rw [if_neg h0,if_pos h1] at h;injection h with h;subst h
   rw [if_neg (fun x:p.d1=n∧p.e1=e'=> by omega)];simp only [dH];omega
 by_cases h2:p.d2=0
 · rw [if_neg h0,if_neg h1,if_pos h2] at h;injection h with h;subst h
   rw [if_neg (fun x:p.d2=n∧p.e2=e'=> by omega)];simp only [dH];omega
 by_cases h3:p.d3=0
 · rw [if_neg h0,if_neg h1,if_neg h2,if_pos h3] at h;injection h with h;subst h
   rw [if_neg (fun x:p.d3=n∧p.e3=e'=> by omega)];simp only [dH];omega
 rw [if_neg h0,if_neg h1,if_neg h2,if_neg h3] at h;cases h
theorem qLs (p:Proc) (a:Nat) (n:Int) (e':Bool) (hn:1≤n):fdn (dH p a 0 false) n e'=fdn p n e' - if (gC p a).1=n∧(gC p a).2=e' then 1 else 0:=by
 have hz:¬ ((0:Int)=n∧false=e'):=fun h=> by omega
 match a with
 |0=>
  show ((if (0:Int)=n∧false=e' then (1:Int) else 0) + (if p.d1=n∧p.e1=e' then 1 else 0) + (if p.d2=n∧p.e2=e' then 1 else 0) + (if p.d3=n∧p.e3=e' then 1 else 0):Int)=(if p.d0=n∧p.e0=e' then 1 else 0) + (if p.d1=n∧p.e1=e' then 1 else 0) + (if p.d2=n∧p.e2=e' then 1 else 0) + (if p.d3=n∧p.e3=e' then 1 else 0) - (if p.d0=n∧p.e0=e' then 1 else 0)
  rw [if_neg hz];omega
 |1=>
  show ((if p.d0=n∧p.e0=e' then 1 else 0) + (if (0:Int)=n∧false=e' then (1:Int) else 0) + (if p.d2=n∧p.e2=e' then 1 else 0) + (if p.d3=n∧p.e3=e' then 1 else 0):Int)=(if p.d0=n∧p.e0=e' then 1 else 0) + (if p.d1=n∧p.e1=e' then 1 else 0) + (if p.d2=n∧p.e2=e' then 1 else 0) + (if p.d3=n∧p.e3=e' then 1 else 0) - (if p.d1=n∧p.e1=e' then 1 else 0)
  rw [if_neg hz];omega
 |2=>
  show ((if p.d0=n∧p.e0=e' then 1 else 0) + (if p.d1=n∧p.e1=e' then 1 else 0) + (if (0:Int)=n∧false=e' then (1:Int) else 0) + (if p.d3=n∧p.e3=e' then 1 else 0):Int)=(if p.d0=n∧p.e0=e' then 1 else 0) + (if p.d1=n∧p.e1=e' then 1 else 0) + (if p.d2=n∧p.e2=e' then 1 else 0) + (if p.d3=n∧p.e3=e' then 1 else 0) - (if p.d2=n∧p.e2=e' then 1 else 0)
  rw [if_neg hz];omega
 |a + 3=>
  show ((if p.d0=n∧p.e0=e' then 1 else 0) + (if p.d1=n∧p.e1=e' then 1 else 0) + (if p.d2=n∧p.e2=e' then 1 else 0) + (if (0:Int)=n∧false=e' then (1:Int) else 0):Int)=(if p.d0=n∧p.e0=e' then 1 else 0) + (if p.d1=n∧p.e1=e' then 1 else 0) + (if p.d2=n∧p.e2=e' then 1 else 0) + (if p.d3=n∧p.e3=e' then 1 else 0) - (if p.d3=n∧p.e3=e' then 1 else 0)
  rw [if_neg hz];omega
def W32 (x:Int):Prop:=0≤x∧x<4294967296
structure lU (p:Proc):Prop where
 rs:Words [p.r0,p.r1,p.r2,p.r3,p.r4,p.r5,p.r6,p.r7]
 pc:W32 p.pc
 wn:W32 p.wn
 wa:W32 p.wa
 wb:W32 p.wb
 wc:W32 p.wc
structure noFd (p:Proc):Prop where
 d0:p.d0=0
 e0:p.e0=false
 d1:p.d1=0
 e1:p.e1=false
 d2:p.d2=0
 e2:p.e2=false
 d3:p.d3=0
 e3:p.e3=false
theorem noFd.fdn {p:Proc} (h:noFd p) {n:Int} (hn:1≤n) (e:Bool):fdn p n e=0:=by
 unfold Kn.fdn;rw [h.d0,h.d1,h.d2,h.d3,if_neg (by omega),if_neg (by omega),if_neg (by omega),if_neg (by omega)];rfl
structure iW (l:List Proc):Prop where
 so:eJ l
 st:∀ p ∈ l,1≤p.st∧p.st≤4
 mem:∀ p ∈ l,p.mem.size=64
 wd:∀ p ∈ l,lU p
 par:∀ p ∈ l,(p.pid=1∧p.par=0∧p.st ≠ 4)∨(1≤p.par∧p.par<p.pid∧∃ q ∈ l,q.pid=p.par∧q.st ≠ 4)
 fd:∀ p ∈ l,p.st=4→noFd p
theorem iW.pos {l:List Proc} (h:iW l):∀ p ∈ l,1≤p.pid:=fun p hp=> by
 rcases h.par p hp with h|h <;> omega
theorem iW.one {l:List Proc} (h:iW l) (hne:l ≠ []):∃ p ∈ l,p.pid=1∧p.st ≠ 4:=by
 cases l with
 |nil=> exact absurd rfl hne
 |cons a l=>
  rcases h.par a List.mem_cons_self with h1|⟨h1,h2,q,hq,h3,h4⟩
  · exact ⟨a,List.mem_cons_self,h1.1,h1.2.2⟩
  · exfalso
    rcases List.mem_cons.1 hq with rfl|hq
    · omega
    · have:=(List.pairwise_cons.1 h.so).1 q hq
      omega
theorem iW.nil:iW []:=⟨List.Pairwise.nil,fun p h=> (nomatch h),fun p h=> (nomatch h),fun p h=> (nomatch h),fun p h=> (nomatch h),fun p h=> (nomatch h)⟩
theorem iW.upd {l:List Proc} (h:iW l) {p p':Proc} (hp:p ∈ l) (he:p'.pid=p.pid) (hpar:p'.par=p.par) (hs:1≤p'.st∧p'.st≤4) (hm:p'.mem.size=64) (hw:lU p')
 (hd:p'.st=4→noFd p'∧p.pid ≠ 1∧∀ q ∈ l,q.par ≠ p.pid):iW (upd l p'):=by
 have hin:p' ∈ Kn.upd l p':=lT hp he.symm
 have live:∀ y ∈ l,(∃ q ∈ l,q.pid=y.par∧q.st ≠ 4)→∃ q ∈ Kn.upd l p',q.pid=y.par∧q.st ≠ 4:=by
  rintro y hy ⟨q,hq,h1,h2⟩;by_cases hqp:q.pid=p.pid
  · refine ⟨p',hin,by omega,fun h4=> ?_⟩;exact (hd h4).2.2 y hy (by omega)
  · exact ⟨q,nK hq (by omega),h1,h2⟩
 refine ⟨h.so.upd p',fun x hx=> ?_,fun x hx=> ?_,fun x hx=> ?_,fun x hx=> ?_,fun x hx h4=> ?_⟩
 · rcases pG hx with rfl|⟨hx,_⟩
   · exact hs
   · exact h.st x hx
 · rcases pG hx with rfl|⟨hx,_⟩
   · exact hm
   · exact h.mem x hx
 · rcases pG hx with rfl|⟨hx,_⟩
   · exact hw
   · exact h.wd x hx
 · rcases pG hx with rfl|⟨hx,_⟩
   · rcases h.par p hp with ⟨h1,h2,h3⟩|⟨h1,h2,h3⟩
     · exact .inl ⟨by omega,by omega,fun h4=> (hd h4).2.1 h1⟩
     · have:=live p hp h3
       rw [← hpar] at this;exact .inr ⟨by omega,by omega,this⟩
   · rcases h.par x hx with h1|⟨h1,h2,h3⟩
     · exact .inl h1
     · exact .inr ⟨h1,h2,live x hx h3⟩
 · rcases pG hx with rfl|⟨hx,_⟩
   · exact (hd h4).1
   · exact h.fd x hx h4
theorem iW.app {l:List Proc} (h:iW l) {p:Proc} (hb:∀ q ∈ l,q.pid<p.pid) (hs:p.st=1) (hm:p.mem.size=64) (hw:lU p)
 (hpar:(p.pid=1∧p.par=0)∨∃ q ∈ l,q.pid=p.par∧q.st ≠ 4):iW (l ++ [p]):=by
 have inl:∀ {x},x ∈ l→x ∈ l ++ [p]:=fun hx=> List.mem_append_left _ hx;have cas:∀ {x},x ∈ l ++ [p]→x ∈ l∨x=p:=fun hx=> by simpa using hx
 refine ⟨h.so.app hb,fun x hx=> ?_,fun x hx=> ?_,fun x hx=> ?_,fun x hx=> ?_,fun x hx h4=> ?_⟩
 · rcases cas hx with hx|rfl
   · exact h.st x hx
   · omega
 · rcases cas hx with hx|rfl
   · exact h.mem x hx
   · exact hm
 · rcases cas hx with hx|rfl
   · exact h.wd x hx
   · exact hw
 · rcases cas hx with hx|rfl
   · rcases h.par x hx with h1|⟨h1,h2,q,hq,h3⟩
     · exact .inl h1
     · exact .inr ⟨h1,h2,q,inl hq,h3⟩
   · rcases hpar with h1|⟨q,hq,h1,h2⟩
     · exact .inl ⟨h1.1,h1.2,by omega⟩
     · have:=h.pos q hq
       have:=hb q hq
       exact .inr ⟨by omega,by omega,q,inl hq,h1,h2⟩
 · rcases cas hx with hx|rfl
   · exact h.fd x hx h4
   · omega
theorem iW.remove {l:List Proc} (h:iW l) {q:Proc} (hq:q ∈ l) (h4:q.st=4):iW (remove l q.pid):=by
 have out:∀ {x},x ∈ Kn.remove l q.pid→x ∈ l:=fun hx=> (iN.1 hx).1;refine ⟨h.so.remove _,fun x hx=> h.st x (out hx),fun x hx=> h.mem x (out hx),fun x hx=> h.wd x (out hx),fun x hx=> ?_,fun x hx=> h.fd x (out hx)⟩;rcases h.par x (out hx) with h1|⟨h1,h2,r,hr,h3,h5⟩
 · exact .inl h1
 · refine .inr ⟨h1,h2,r,iN.2 ⟨hr,fun he=> h5 ?_⟩,h3,h5⟩;rw [h.so.uniq hr hq he];exact h4
theorem iW.dQ {l:List Proc} (h:iW l) {pid:Int} (hp:pid ≠ 1) (h1:1≤pid):iW (dQ l pid 1)∧∀ q ∈ dQ l pid 1,q.par ≠ pid:=by
 rw [jG];have img:∀ {x},x ∈ l.map (ado pid 1)→∃ y ∈ l,ado pid 1 y=x:=fun hx=> List.mem_map.1 hx;have hst:∀ y,(ado pid 1 y).st=y.st:=qAf pid 1;have hpid:∀ y,(ado pid 1 y).pid=y.pid:=lA pid 1;refine ⟨⟨h.so.dQ pid 1,fun x hx=> ?_,fun x hx=> ?_,fun x hx=> ?_,fun x hx=> ?_,fun x hx h4=> ?_⟩,fun x hx=> ?_⟩
 · obtain ⟨y,hy,rfl⟩:=img hx;rw [hst];exact h.st y hy
 · obtain ⟨y,hy,rfl⟩:=img hx;unfold ado;split <;> exact h.mem y hy
 · obtain ⟨y,hy,rfl⟩:=img hx;have:=h.wd y hy
   unfold ado;split
   · exact ⟨this.rs,this.pc,this.wn,this.wa,this.wb,this.wc⟩
   · exact this
 · obtain ⟨y,hy,rfl⟩:=img hx;rw [hpid,hst];by_cases hyp:y.par=pid
   · have e:(ado pid 1 y).par=1:=by unfold ado;rw [if_pos hyp]
     rw [e];rcases h.par y hy with g|⟨g1,g2,_⟩
     · omega
     · obtain ⟨o,ho,o1,o2⟩:=h.one (List.ne_nil_of_mem hy);exact .inr ⟨by omega,by omega,ado pid 1 o,List.mem_map_of_mem ho,by rw [hpid];exact o1,by rw [hst];exact o2⟩
   · have e:(ado pid 1 y).par=y.par:=by unfold ado;rw [if_neg hyp]
     rw [e];rcases h.par y hy with g|⟨g1,g2,q,hq,g3,g4⟩
     · exact .inl g
     · exact .inr ⟨g1,g2,ado pid 1 q,List.mem_map_of_mem hq,by rw [hpid];exact g3,by rw [hst];exact g4⟩
 · obtain ⟨y,hy,rfl⟩:=img hx;rw [hst] at h4;have:=h.fd y hy h4
   unfold ado;split
   · exact ⟨this.d0,this.e0,this.d1,this.e1,this.d2,this.e2,this.d3,this.e3⟩
   · exact this
 · obtain ⟨y,hy,rfl⟩:=img hx;unfold ado;split
   · show (1:Int) ≠ pid
     omega
   · next hn=> exact hn
def Keys (l:List Int) (ps:List Proc) (pr:Int→Prop):Prop:=l.Nodup∧∀ i,i ∈ l↔∃ p ∈ ps,p.pid=i∧pr p.st
section
variable {l l':List Int} {ps:List Proc} {pr:Int→Prop} {p p':Proc}
theorem Keys.at (h:Keys l ps pr) (hs:eJ ps) (hp:p ∈ ps):p.pid ∈ l↔pr p.st:=by
 rw [h.2];constructor
 · rintro ⟨q,hq,h1,h2⟩;rwa [hs.uniq hq hp h1] at h2
 · exact fun h=> ⟨p,hp,rfl,h⟩
theorem Keys.nil (pr:Int→Prop):Keys [] [] pr:=⟨List.nodup_nil,fun i=> ⟨fun h=> (nomatch h),fun ⟨p,h,_⟩=> (nomatch h)⟩⟩
theorem Keys.perm (h:Keys l ps pr) (hp:l'.Perm l):Keys l' ps pr:=⟨hp.nodup_iff.2 h.1,fun i=> by rw [hp.mem_iff,h.2]⟩
theorem Keys.upd (h:Keys l ps pr) (hs:eJ ps) (hp:p ∈ ps) (he:p'.pid=p.pid) (hn:l'.Nodup) (hm:∀ i,i ∈ l'↔(i ≠ p.pid∧i ∈ l)∨(i=p.pid∧pr p'.st)):Keys l' (upd ps p') pr:=by
 refine ⟨hn,fun i=> ?_⟩;rw [hm];constructor
 · rintro (⟨h1,h2⟩|⟨h1,h2⟩)
   · obtain ⟨q,hq,h3,h4⟩:=(h.2 i).1 h2;exact ⟨q,nK hq (by omega),h3,h4⟩
   · exact ⟨p',lT hp he.symm,by omega,h2⟩
 · rintro ⟨q,hq,h3,h4⟩;rcases pG hq with rfl|⟨hq,h5⟩
   · exact .inr ⟨by omega,h4⟩
   · exact .inl ⟨by omega,(h.2 i).2 ⟨q,hq,h3,h4⟩⟩
theorem Keys.same (h:Keys l ps pr) (hs:eJ ps) (hp:p ∈ ps) (he:p'.pid=p.pid) (hst:pr p'.st↔pr p.st):Keys l (Kn.upd ps p') pr:=by
 refine h.upd hs hp he h.1 (fun i=> ?_);by_cases hi:i=p.pid
 · subst hi;rw [h.at hs hp,hst];simp
 · simp [hi]
theorem Keys.more (h:Keys l ps pr) (hb:∀ q ∈ ps,q.pid<p.pid) (hn:l'.Nodup) (hm:∀ i,i ∈ l'↔i ∈ l∨(i=p.pid∧pr p.st)):Keys l' (ps ++ [p]) pr:=by
 refine ⟨hn,fun i=> ?_⟩;rw [hm,h.2];constructor
 · rintro (⟨q,hq,h1⟩|⟨h1,h2⟩)
   · exact ⟨q,List.mem_append_left _ hq,h1⟩
   · exact ⟨p,by simp,h1.symm,h2⟩
 · rintro ⟨q,hq,h1,h2⟩;rcases (by simpa using hq:q ∈ ps∨q=p) with hq|rfl
   · exact .inl ⟨q,hq,h1,h2⟩
   · exact .inr ⟨h1.symm,h2⟩
theorem Keys.remove (h:Keys l ps pr) (hs:eJ ps) (hp:p ∈ ps) (hn:¬ pr p.st):Keys l (remove ps p.pid) pr:=by
 refine ⟨h.1,fun i=> ?_⟩;rw [h.2];constructor
 · rintro ⟨q,hq,h1,h2⟩;refine ⟨q,iN.2 ⟨hq,fun he=> hn ?_⟩,h1,h2⟩;rwa [← hs.uniq hq hp he]
 · rintro ⟨q,hq,h1⟩;exact ⟨q,(iN.1 hq).1,h1⟩
theorem Keys.dQ (h:Keys l ps pr) (src dst:Int):Keys l (dQ ps src dst) pr:=by
 refine ⟨h.1,fun i=> ?_⟩;rw [h.2,jG];constructor
 · rintro ⟨q,hq,h1,h2⟩;exact ⟨ado src dst q,List.mem_map_of_mem hq,by rw [lA];exact h1,by rw [qAf];exact h2⟩
 · rintro ⟨q,hq,h1,h2⟩;obtain ⟨y,hy,rfl⟩:=List.mem_map.1 hq;rw [lA] at h1;rw [qAf] at h2;exact ⟨y,hy,h1,h2⟩
end
structure PO (l:List cG) (ps:List Proc):Prop where
 ok:gP l (cnt ps)
 n:l.length≤4
 out:∀ n e,(l.length:Int)<n→cnt ps n e=0
theorem PO.of {l:List cG} {ps qs:List Proc} (h:PO l ps) (he:∀ n e,1≤n→cnt ps n e=cnt qs n e):PO l qs:=⟨h.ok.of he,h.n,fun n e hn=> by rw [← he n e (by omega)];exact h.out n e hn⟩
theorem PO.upd {l:List cG} {ps:List Proc} (h:PO l ps) (hs:eJ ps) {p p':Proc} (hp:p ∈ ps) (he:p'.pid=p.pid) (hf:∀ n e,1≤n→fdn p' n e=fdn p n e):PO l (Kn.upd ps p'):=h.of (fun n e hn=> by
 rw [zP hs hp he.symm,hf n e hn];omega)
theorem oB (x:Int):W32 (x % 4294967296):=by unfold W32;omega
theorem jV:W32 0:=by unfold W32;omega
structure Inv (D:List Int) (k:aI):Prop where
 tab:iW k.p
 n6:k.p.length≤6
 tn:Keys k.t.l k.p (fun s=> s=1)
 tl:0≤k.t.left∧k.t.left≤5
 so:k.s.Pairwise jB
 al:Keys (k.s.map (·.pid) ++ D) k.p (fun s=> s=3)
 hr:eO k.hs k.h=true
 h64:∀ s ∈ k.h,s.n=64
 hp:Keys (k.h.map (·.who)) k.p (fun s=> s ≠ 4)
 po:PO k.aG k.p
structure uT (p' p:Proc):Prop where
 pid:p'.pid=p.pid
 par:p'.par=p.par
 mem:p'.mem.size=64
 wd:lU p'
 fd:∀ n e,1≤n→fdn p' n e=fdn p n e
theorem Inv.like {D:List Int} {k:aI} (h:Inv D k) {p:Proc} (hp:p ∈ k.p):uT p p:=⟨rfl,rfl,h.tab.mem p hp,h.tab.wd p hp,fun _ _ _=> rfl⟩
section
variable {D D':List Int} {k k':aI} {p p':Proc} {x:Proc}
theorem Inv.upd (h:Inv D k) (hp:p ∈ k.p) (hk:uT p' p) (hst:p.st ≠ 4) (hs0:1≤p'.st) (hs1:p'.st≤3) (e1:k'.p=put k.p p') (e3:k'.hs=k.hs) (e4:k'.h=k.h) (e5:k'.aG=k.aG)
 (ht:Keys k'.t.l (Kn.upd k.p p') (fun s=> s=1)) (htl:0≤k'.t.left∧k'.t.left≤5) (hso:k'.s.Pairwise jB) (hal:Keys (k'.s.map (·.pid) ++ D') (Kn.upd k.p p') (fun s=> s=3)):Inv D' k':=by
 have hu:put k.p p'=Kn.upd k.p p':=fW h.tab.so hp hk.pid.symm;rw [hu] at e1;refine ⟨?_,?_,?_,htl,hso,?_,?_,?_,?_,?_⟩
 · rw [e1];exact h.tab.upd hp hk.pid hk.par ⟨hs0,by omega⟩ hk.mem hk.wd (fun h4=> by omega)
 · rw [e1,tK];exact h.n6
 · rw [e1];exact ht
 · rw [e1];exact hal
 · rw [e3,e4];exact h.hr
 · rw [e4];exact h.h64
 · rw [e1,e4];exact h.hp.same h.tab.so hp hk.pid (by constructor <;> intro _ <;> omega)
 · rw [e1,e5];exact h.po.upd h.tab.so hp hk.pid hk.fd
theorem Inv.change (h:Inv D k) (hp:p ∈ k.p) (hk:uT p' p) (hst:p.st ≠ 4) (hs:p'.st=p.st) (e1:k'.p=put k.p p') (e3:k'.hs=k.hs) (e4:k'.h=k.h) (e5:k'.aG=k.aG) (e6:k'.t=k.t) (e7:k'.s=k.s):Inv D k':=by
 have:=h.tab.st p hp
 refine h.upd hp hk hst (by omega) (by omega) e1 e3 e4 e5 ?_ (by rw [e6];exact h.tl) (by rw [e7];exact h.so) ?_
 · rw [e6];exact h.tn.same h.tab.so hp hk.pid (by rw [hs])
 · rw [e7];exact h.al.same h.tab.so hp hk.pid (by rw [hs])
theorem qLj {e v:Int} (hv:W32 v):W32 (pC e v):=by
 unfold pC W32 at *;split
 · exact hv
 · omega
theorem Words.set0 {a b c d e f g i x:Int} (h:Words [a,b,c,d,e,f,g,i]) (hx:W32 x):Words [x,b,c,d,e,f,g,i]:=by
 refine ⟨rfl,fun y hy=> ?_⟩;rcases List.mem_cons.1 hy with rfl|hy
 · exact hx
 · exact h.2 y (List.mem_cons_of_mem _ hy)
theorem uT.back (h:uT p' p) {v e:Int} (hv:W32 v):uT (back p' v e) p:=
 ⟨h.pid,h.par,h.mem,⟨Words.set0 h.wd.rs (qLj hv),h.wd.pc,jV,jV,jV,jV⟩,h.fd⟩
theorem xM {t:jM} (h:0≤t.left∧t.left≤5) (i:Int):0≤(iE t i).left∧(iE t i).left≤5:=by
 unfold iE;split
 · exact h
 · dsimp only;split <;> omega
theorem tF {t:jM} (h:0≤t.left∧t.left≤5) (i:Int):0≤(eZ t i).left∧(eZ t i).left≤5:=by
 unfold eZ;split
 · dsimp only;split <;> omega
 · exact h
theorem qHb {t:jM} (h:0≤t.left∧t.left≤5):0≤(jE t).left∧(jE t).left≤5:=by
 unfold jE;split
 · exact h
 · dsimp only;omega
theorem zD {t:jM} (h:0≤t.left∧t.left≤5):0≤(gO t).left∧(gO t).left≤5:=by
 unfold gO;split
 · exact h
 · next hne=>
   split
   · unfold jE;split
     · next hl=> exact absurd hl hne
     · dsimp only;omega
   · dsimp only;omega
theorem Inv.answer (h:Inv D k) (hp:p ∈ k.p) (hk:uT p' p) (h1:p.st=1) {v e:Int} (hv:W32 v) (x:Call):Inv D (Kn.answer k p' x v e):=by
 refine h.upd (p':=Kn.back p' v e) hp (hk.back hv) (by omega) (show (1:Int)≤1 by decide) (show (1:Int)≤3 by decide) rfl rfl rfl rfl ?_ h.tl h.so ?_
 · exact h.tn.same h.tab.so hp (hk.back (e:=e) hv).pid (by rw [h1];exact Iff.rfl)
 · exact h.al.same h.tab.so hp (hk.back (e:=e) hv).pid (by rw [h1];exact Iff.rfl)
theorem Inv.iZ (h:Inv D k) (hp:p ∈ k.p) (h2:p.st=2) {v e:Int} (hv:W32 v) (x:Call):Inv D {Kn.answer k p x v e with t:=iE k.t p.pid}:=by
 refine h.upd (p':=Kn.back p v e) hp ((h.like hp).back hv) (by omega) (show (1:Int)≤1 by decide) (show (1:Int)≤3 by decide) rfl rfl rfl rfl ?_ (xM h.tl _) h.so ?_
 · refine h.tn.upd h.tab.so hp rfl (tE h.tn.1 _) (fun i=> ?_);rw [qBi];show _↔_∨(_∧(1:Int)=1)
   by_cases hi:i=p.pid <;> simp [hi]
 · exact h.al.same h.tab.so hp rfl (by rw [h2];show ((1:Int)=3)↔_;decide)
theorem Inv.xAh (h:Inv (p.pid::D) k) (hp:p ∈ k.p) (h3:p.st=3) {v e:Int} (hv:W32 v) (x:Call):Inv D {Kn.answer k p x v e with t:=iE k.t p.pid}:=by
 have hnd:((k.s.map (·.pid)) ++ D).Nodup∧p.pid ∉ (k.s.map (·.pid)) ++ D:=by
  have:=(List.perm_middle (a:=p.pid) (l₁:=k.s.map (·.pid)) (l₂:=D)).nodup_iff.1 h.al.1
  rw [List.nodup_cons] at this;exact ⟨this.2,this.1⟩
 refine h.upd (p':=Kn.back p v e) hp ((h.like hp).back hv) (by omega) (show (1:Int)≤1 by decide) (show (1:Int)≤3 by decide) rfl rfl rfl rfl ?_ (xM h.tl _) h.so ?_
 · refine h.tn.upd h.tab.so hp rfl (tE h.tn.1 _) (fun i=> ?_);rw [qBi];show _↔_∨(_∧(1:Int)=1)
   by_cases hi:i=p.pid <;> simp [hi]
 · refine h.al.upd h.tab.so hp rfl hnd.1 (fun i=> ?_);have hm:=(List.perm_middle (a:=p.pid) (l₁:=k.s.map (·.pid)) (l₂:=D)).mem_iff (a:=i);rw [hm,List.mem_cons];show i ∈ k.s.map (·.pid) ++ D↔_∨(_∧(1:Int)=3)
   constructor
   · intro hi;exact .inl ⟨fun he=> hnd.2 (he ▸ hi),.inr hi⟩
   · rintro (⟨h1,h2|h2⟩|⟨_,h2⟩)
     · exact absurd h2 h1
     · exact h2
     · exact absurd h2 (by decide)
theorem Inv.qXl (h:Inv D k) (hp:p ∈ k.p) (h1:p.st=1) (x:Call) (hn:W32 x.n) (ha:W32 x.a) (hb:W32 x.b) (hc:W32 x.c):Inv D (stops k p 2 x):=by
 have hk:uT ({p with st:=2,wn:=x.n,wa:=x.a,wb:=x.b,wc:=x.c}:Proc) p:=⟨rfl,rfl,h.tab.mem p hp,⟨(h.tab.wd p hp).rs,(h.tab.wd p hp).pc,hn,ha,hb,hc⟩,fun _ _ _=> rfl⟩
 refine h.upd hp hk (by omega) (show (1:Int)≤2 by decide) (show (2:Int)≤3 by decide) rfl rfl rfl rfl ?_ (tF h.tl _) h.so ?_
 · refine h.tn.upd h.tab.so hp rfl (qX h.tn.1 _) (fun i=> ?_);show i ∈ (eZ k.t p.pid).l↔_∨(_∧(2:Int)=1)
   rw [xN];simp;exact And.comm
 · exact h.al.same h.tab.so hp rfl (by rw [h1];show ((2:Int)=3)↔_;decide)
theorem Inv.qXm (h:Inv [] k) (hp:p ∈ k.p) (h1:p.st=1) (x:Call) (hn:W32 x.n) (ha:W32 x.a) (hb:W32 x.b) (hc:W32 x.c) (at_:Int):Inv [] {stops k p 3 x with s:=pM k.s ⟨at_,p.pid⟩}:=by
 have hk:uT ({p with st:=3,wn:=x.n,wa:=x.a,wb:=x.b,wc:=x.c}:Proc) p:=⟨rfl,rfl,h.tab.mem p hp,⟨(h.tab.wd p hp).rs,(h.tab.wd p hp).pc,hn,ha,hb,hc⟩,fun _ _ _=> rfl⟩
 have hout:p.pid ∉ k.s.map (·.pid):=by
  have:=mt (h.al.at h.tab.so hp).1 (by rw [h1];decide)
  simpa using this
 have hperm:((pM k.s ⟨at_,p.pid⟩).map (·.pid)).Perm (p.pid::k.s.map (·.pid)):=(qDb k.s ⟨at_,p.pid⟩).map _;refine h.upd hp hk (by omega) (show (1:Int)≤3 by decide) (show (3:Int)≤3 by decide) rfl rfl rfl rfl ?_ (tF h.tl _) ?_ ?_
 · refine h.tn.upd h.tab.so hp rfl (qX h.tn.1 _) (fun i=> ?_);show i ∈ (eZ k.t p.pid).l↔_∨(_∧(3:Int)=1)
   rw [xN];simp;exact And.comm
 · exact qGt h.so (fun y hy he=> hout (List.mem_map.2 ⟨y,hy,he⟩))
 · show Keys ((pM k.s ⟨at_,p.pid⟩).map (·.pid) ++ []) _ _
   rw [List.append_nil];have hal:=h.al;rw [List.append_nil] at hal;refine hal.upd h.tab.so hp rfl (hperm.nodup_iff.2 (List.nodup_cons.2 ⟨hout,hal.1⟩)) (fun i=> ?_);rw [hperm.mem_iff,List.mem_cons];show _↔_∨(_∧(3:Int)=3)
   by_cases hi:i=p.pid
   · simp [hi]
   · simp [hi]
end
theorem qGd {m:ByteArray} {a:Int} {s:ByteArray} (h0:0≤a):(Sg.inM m a s).size=m.size:=by
 unfold Sg.inM;split
 · rename_i h;simp only [Sg.has,decide_eq_true_eq] at h;refine Sg.qAy ?_;have e:s.data.toList.length=s.size:=Array.length_toList;rw [e];omega
 · rfl
theorem nY (p:Proc) (a:Nat) (d:Int) (e:Bool):(dH p a d e).pid=p.pid∧(dH p a d e).par=p.par∧(dH p a d e).mem=p.mem∧(dH p a d e).st=p.st∧(lU p→lU (dH p a d e)):=by
 match a with
 |0=> exact ⟨rfl,rfl,rfl,rfl,fun h=> ⟨h.rs,h.pc,h.wn,h.wa,h.wb,h.wc⟩⟩
 |1=> exact ⟨rfl,rfl,rfl,rfl,fun h=> ⟨h.rs,h.pc,h.wn,h.wa,h.wb,h.wc⟩⟩
 |2=> exact ⟨rfl,rfl,rfl,rfl,fun h=> ⟨h.rs,h.pc,h.wn,h.wa,h.wb,h.wc⟩⟩
 |a + 3=> exact ⟨rfl,rfl,rfl,rfl,fun h=> ⟨h.rs,h.pc,h.wn,h.wa,h.wb,h.wc⟩⟩
section
variable {D:List Int} {k k':aI} {p p':Proc}
theorem Inv.qUj (h:Inv D k) (hp:p ∈ k.p) (hst:p.st ≠ 4) (h1:p'.pid=p.pid) (h2:p'.par=p.par) (h3:p'.mem=p.mem) (h4:p'.st=p.st) (h5:lU p') (e1:k'.p=put k.p p') (e3:k'.hs=k.hs) (e4:k'.h=k.h) (e6:k'.t=k.t) (e7:k'.s=k.s)
 (hpo:PO k'.aG (Kn.upd k.p p')):Inv D k':=by
 have hu:put k.p p'=Kn.upd k.p p':=fW h.tab.so hp h1.symm;rw [hu] at e1;have:=h.tab.st p hp
 refine ⟨?_,?_,?_,by rw [e6];exact h.tl,by rw [e7];exact h.so,?_,?_,?_,?_,?_⟩
 · rw [e1];exact h.tab.upd hp h1 h2 (by omega) (by rw [h3];exact h.tab.mem p hp) h5 (fun h4=> by omega)
 · rw [e1,tK];exact h.n6
 · rw [e1,e6];exact h.tn.same h.tab.so hp h1 (by rw [h4])
 · rw [e1,e7];exact h.al.same h.tab.so hp h1 (by rw [h4])
 · rw [e3,e4];exact h.hr
 · rw [e4];exact h.h64
 · rw [e1,e4];exact h.hp.same h.tab.so hp h1 (by rw [h4])
 · rw [e1];exact hpo
theorem qHn {l:List Proc} {q:Proc} (hq:q ∈ l) (n:Int) (e:Bool):fdn q n e≤cnt l n e:=by
 induction l with
 |nil=> cases hq
 |cons a l ih=>
  rw [jI];rcases List.mem_cons.1 hq with rfl|hq
  · have:=(sE l n e).1;omega
  · have:=ih hq
    have:=(oN a n e).1
    omega
theorem Inv.same (h:Inv D k) (e1:k'.p=k.p) (e3:k'.hs=k.hs) (e4:k'.h=k.h) (e5:k'.aG=k.aG) (e6:k'.t=k.t) (e7:k'.s=k.s):Inv D k':=by
 obtain ⟨a1,a2,a3,a4,a5,a6,a7,a8,a9,a10⟩:=h;exact ⟨by rw [e1];exact a1,by rw [e1];exact a2,by rw [e1,e6];exact a3,by rw [e6];exact a4,by rw [e7];exact a5,by rw [e1,e7];exact a6,by rw [e3,e4];exact a7,by rw [e4];exact a8,by rw [e1,e4];exact a9,by rw [e1,e5];exact a10⟩
theorem zL (b:ByteArray) (i j:Nat):(b.extract i j).size≤b.size:=by
 rw [ByteArray.size_extract];omega
theorem qEp (q:cG) (s:ByteArray) (h8:q.data.size≤8):(pwrite q s).1.rd=q.rd∧(pwrite q s).1.wr=q.wr∧(pwrite q s).1.data.size≤8:=by
 unfold pwrite;split
 · exact ⟨rfl,rfl,h8⟩
 split
 · exact ⟨rfl,rfl,h8⟩
 split
 · exact ⟨rfl,rfl,h8⟩
 · refine ⟨rfl,rfl,?_⟩;show (q.data ++ s.extract 0 (min (8 - q.data.size) s.size)).size≤8
   rw [ByteArray.size_append,ByteArray.size_extract];omega
theorem qGm (q:cG) (n:Int) (h8:q.data.size≤8):(pread q n).1.rd=q.rd∧(pread q n).1.wr=q.wr∧(pread q n).1.data.size≤8:=by
 unfold pread;split
 · exact ⟨rfl,rfl,h8⟩
 split
 · exact ⟨rfl,rfl,h8⟩
 split
 · exact ⟨rfl,rfl,h8⟩
 · exact ⟨rfl,rfl,Nat.le_trans (zL _ _ _) h8⟩
theorem qAt {k:aI} {p:Proc} {n:Int} (h:jJ k p n=true):1≤(gC p n.toNat).1∧k.aG[((gC p n.toNat).1 - 1).toNat]? =some (eT k p n):=by
 unfold jJ at h;simp only [Bool.not_eq_true',Bool.or_eq_false_iff,decide_eq_false_iff_not] at h;refine ⟨by omega,?_⟩;unfold eT;rw [List.getElem?_eq_getElem (by omega)];rfl
theorem PO.qKl {l:List cG} {ps:List Proc} (h:PO l ps) {j:Nat} {q q':cG} (hq:l[j]? =some q) (h1:q'.rd=q.rd) (h2:q'.wr=q.wr) (h3:q'.data.size≤8):PO (l.set j q') ps:=
 ⟨h.ok.set hq h1 h2 h3,by rw [List.length_set];exact h.n,by rw [List.length_set];exact h.out⟩
structure qDq (D:List Int) (k:aI) (p:Proc) (r:iA):Prop where
 inv:Inv D r.k
 me:∃ q ∈ r.k.p,q.pid=p.pid∧q.st=p.st
 oth:∀ q ∈ k.p,q.pid ≠ p.pid→q.st ≠ 4→q ∈ r.k.p
 v:W32 r.v
theorem Inv.qEw (h:Inv D k) (hp:p ∈ k.p) (hst:p.st ≠ 4) (x:Call) (ha:W32 x.a) (hb:W32 x.b):qDq D k p (aW k p x):=by
 have stay:∀ (v e:Int),W32 v→qDq D k p ⟨k,v,e⟩:=fun v e hv=> ⟨h,⟨p,hp,rfl,rfl⟩,fun q hq _ _=> hq,hv⟩
 have z:=jV
 have chg:∀ (k':aI) (p':Proc) (v e:Int),p'.pid=p.pid→p'.st=p.st→k'.p=put k.p p'→Inv D k'→W32 v→qDq D k p ⟨k',v,e⟩:=fun k' p' v e h1 h2 h3 h4 hv=> by
  have hu:k'.p=Kn.upd k.p p':=by rw [h3];exact fW h.tab.so hp h1.symm
  exact ⟨h4,⟨p',by show p' ∈ k'.p;rw [hu];exact lT hp h1.symm,h1,h2⟩,fun q hq hne _=> by show q ∈ k'.p;rw [hu];exact nK hq (by omega),hv⟩
 unfold aW;split
 · unfold wait;cases hd:dead k.p p.pid with
   |none=>
    dsimp only;split <;> exact stay _ _ z
   |some q=>
    dsimp only;unfold dead at hd;have hq:=List.mem_of_find?_eq_some hd
    have h4:q.st=4:=by
     have:=List.find?_some hd
     simp only [Bool.and_eq_true,beq_iff_eq] at this;exact this.2
    have hne:p.pid ≠ q.pid:=fun he=> hst (by rw [h.tab.so.uniq hp hq he];exact h4);refine ⟨?_,⟨p,iN.2 ⟨hp,hne⟩,rfl,rfl⟩,fun r hr _ h5=> iN.2 ⟨hr,fun he=> h5 (by rw [h.tab.so.uniq hr hq he];exact h4)⟩,oB _⟩;refine ⟨h.tab.remove hq h4,Nat.le_trans (List.length_filter_le _ _) h.n6,h.tn.remove h.tab.so hq (by rw [h4];decide),h.tl,h.so,h.al.remove h.tab.so hq (by rw [h4];decide),h.hr,h.h64,h.hp.remove h.tab.so hq (by rw [h4];decide),?_⟩;refine h.po.of (fun n e hn=> ?_);show _=cnt (remove k.p q.pid) n e
    rw [qHo h.tab.so hq,(h.tab.fd q hq h4).fdn hn];omega
 split
 · exact stay _ _ (oB _)
 split
 · exact stay _ _ (oB _)
 split
 · exact ⟨h.same rfl rfl rfl rfl rfl rfl,⟨p,hp,rfl,rfl⟩,fun q hq _ _=> hq,z⟩
 split
 · unfold aG;split
   · exact stay _ _ z
   · next l n hm=>
     split
     · exact stay _ _ z
     · next a hfa=>
       split
       · exact stay _ _ z
       · next b hfb=>
         obtain ⟨g1,g2,g3,g4,g5⟩:=nY p a n false;obtain ⟨f1,f2,f3,f4,f5⟩:=nY (dH p a n false) b n true;obtain ⟨m1,m2,m3,m4,m5⟩:=h.po.ok.make (fun n e=> (sE _ n e).1) h.po.out hm;have hpid:(dH (dH p a n false) b n true).pid=p.pid:=f1.trans g1;refine chg _ _ _ _ hpid (f4.trans g4) rfl ?_ (oB _);refine h.qUj hp hst hpid (f2.trans g2) (f3.trans g3) (f4.trans g4) (f5 (g5 (h.tab.wd p hp))) rfl rfl rfl rfl rfl ?_
         have hc:∀ (i:Int) e,1≤i→cnt (Kn.upd k.p (dH (dH p a n false) b n true)) i e=cnt k.p i e + if i=(n:Int) then 1 else 0:=fun i e hi=> by
          rw [zP h.tab.so hp hpid.symm,qCo hfb _ _ _ _ hi,qCo hfa _ _ _ _ hi];cases e
          · by_cases hni:i=(n:Int)
            · rw [if_pos ⟨hni.symm,rfl⟩,if_neg (by simp),if_pos hni];omega
            · rw [if_neg (by simp;omega),if_neg (by simp),if_neg hni];omega
          · by_cases hni:i=(n:Int)
            · rw [if_neg (by simp),if_pos ⟨hni.symm,rfl⟩,if_pos hni];omega
            · rw [if_neg (by simp),if_neg (by simp;omega),if_neg hni];omega
         have h4:=h.po.n;refine ⟨m1.of (fun i e hi=> (hc i e hi).symm),by show l.length≤4;omega,fun i e hi=> ?_⟩;have hi:(l.length:Int)<i:=hi;rw [hc i e (by omega),h.po.out i e (by omega),if_neg (by omega)];rfl
 split
 · unfold writes;split
   · exact stay _ _ z
   · next hc=>
     split
     · exact stay _ _ z
     · dsimp only;split
       · exact stay _ _ z
       · have he:jJ k p x.a=true:=by cases hh:jJ k p x.a with|true=> rfl|false=> exact absurd (.inl hh) hc
         obtain ⟨_,hq⟩:=qAt he;have h8:=(h.po.ok _ _ hq).2.2;obtain ⟨w1,w2,w3⟩:=qEp (eT k p x.a) (Sg.sY p.mem x.b x.c) h8;exact ⟨⟨h.tab,h.n6,h.tn,h.tl,h.so,h.al,h.hr,h.h64,h.hp,h.po.qKl hq w1 w2 w3⟩,⟨p,hp,rfl,rfl⟩,fun q hq _ _=> hq,oB _⟩
 split
 · unfold reads;split
   · exact stay _ _ z
   · next hc=>
     split
     · exact stay _ _ z
     · dsimp only;split
       · exact stay _ _ z
       · have he:jJ k p x.a=true:=by cases hh:jJ k p x.a with|true=> rfl|false=> exact absurd (.inl hh) hc
         obtain ⟨_,hq⟩:=qAt he;have h8:=(h.po.ok _ _ hq).2.2;obtain ⟨w1,w2,w3⟩:=qGm (eT k p x.a) x.c h8;refine chg _ ({p with mem:=Sg.inM p.mem x.b (pread (eT k p x.a) x.c).2.1}:Proc) _ _ rfl rfl rfl ?_ (oB _);have hk:uT ({p with mem:=Sg.inM p.mem x.b (pread (eT k p x.a) x.c).2.1}:Proc) p:=⟨rfl,rfl,(qGd hb.1).trans (h.tab.mem p hp),⟨(h.tab.wd p hp).rs,(h.tab.wd p hp).pc,(h.tab.wd p hp).wn,(h.tab.wd p hp).wa,(h.tab.wd p hp).wb,(h.tab.wd p hp).wc⟩,fun _ _ _=> rfl⟩
         have h2:Inv D {k with p:=put k.p ({p with mem:=Sg.inM p.mem x.b (pread (eT k p x.a) x.c).2.1}:Proc)}:=h.change hp hk hst rfl rfl rfl rfl rfl rfl rfl;exact ⟨h2.tab,h2.n6,h2.tn,h2.tl,h2.so,h2.al,h2.hr,h2.h64,h2.hp,h2.po.qKl hq w1 w2 w3⟩
 split
 · unfold gM;split
   · exact stay _ _ z
   · next hc=>
     have he:jJ k p x.a=true:=by cases hh:jJ k p x.a with|true=> rfl|false=> exact absurd hh hc
     obtain ⟨g1,g2,g3,g4,g5⟩:=nY p x.a.toNat 0 false;refine chg _ _ _ _ g1 g4 rfl ?_ z;refine h.qUj hp hst g1 g2 g3 g4 (g5 (h.tab.wd p hp)) rfl rfl rfl rfl rfl ?_
     have hcn:∀ (i:Int) e,1≤i→cnt (Kn.upd k.p (dH p x.a.toNat 0 false)) i e=cnt k.p i e + if (gC p x.a.toNat).1=i∧(gC p x.a.toNat).2=e then -1 else 0:=fun i e hi=> by
      rw [zP h.tab.so hp g1.symm,qLs _ _ _ _ hi];split <;> omega
     refine ⟨(h.po.ok.count _ _ _).of (fun i e hi=> (hcn i e hi).symm),by show (aM _ _ _ _).length≤4;rw [plen];exact h.po.n,fun i e hi=> ?_⟩;have hi:((aM k.aG (gC p x.a.toNat).1 (gC p x.a.toNat).2 (-1)).length:Int)<i:=hi;rw [plen] at hi;have h0:=h.po.out i e hi;rw [hcn i e (by omega),h0]
     have hle:(gC p x.a.toNat).1≤k.aG.length:=by
      unfold jJ at he;simp only [Bool.not_eq_true',Bool.or_eq_false_iff,decide_eq_false_iff_not] at he;omega
     rw [if_neg (by omega)];rfl
 split
 · unfold gZ;split
   · exact stay _ _ z
   · split
     · exact stay _ _ z
     · split
       · exact stay _ _ z
       · exact ⟨h.same rfl rfl rfl rfl rfl rfl,⟨p,hp,rfl,rfl⟩,fun q hq _ _=> hq,z⟩
 split
 · unfold mH;split
   · split
     · exact stay _ _ z
     · next m _ _=>
       split
       · exact stay _ _ z
       · split
         · exact stay _ _ z
         · refine chg _ ({p with mem:=Sg.inM p.mem x.b m.body}:Proc) _ _ rfl rfl rfl ?_ (oB _);have hk:uT ({p with mem:=Sg.inM p.mem x.b m.body}:Proc) p:=⟨rfl,rfl,(qGd hb.1).trans (h.tab.mem p hp),⟨(h.tab.wd p hp).rs,(h.tab.wd p hp).pc,(h.tab.wd p hp).wn,(h.tab.wd p hp).wa,(h.tab.wd p hp).wb,(h.tab.wd p hp).wc⟩,fun _ _ _=> rfl⟩
           exact h.change hp hk hst rfl rfl rfl rfl rfl rfl rfl
   · exact stay _ _ z
 · exact stay _ _ z
