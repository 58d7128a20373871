/- What the methods ask of a guest, in one; which function tries a call. No condition. How the plain methods keep lengths. No condition. What is right of a guest's rows, in plain Lean: the table, turns, alarms. No condition. What is right of a guest's rows, in plain Lean: the room, pipes and their ends. No condition. What a guest keeps, in plain Lean: the table; who has a turn, an alarm, a piece of the room. No condition. What a guest's methods keep, in plain Lean: answers, tries, stops. No condition. What a guest's cycle keeps, in plain Lean: ends, new processes, calls, who wakes, a cycle, the beginning. No condition. What a guest's cycle adds to what was told, in plain Lean; cycles keep what is right. No condition. A guest's cycle keeps what is right, in plain Lean: who wakes, who goes. No condition. A guest whose rows are right, and small, is one that the methods ask for. No condition. Scripts of a guest, in plain Lean: what stays small, and right. No condition. What the laws of a guest count, in plain Lean. No condition. -/
import Derived.Test.YthgehdghihbiaaaGreatDoorKwFresh
import Derived.Test.YthgehdghihbiaaaGreatDoorGCp
set_option linter.unusedVariables false
set_option linter.unusedSimpArgs false
namespace Go.Proofs.YthgehdghihbiaaaGreatDoor
open Go.RowKit KR
namespace Kn
structure Fit (k:Kern):Prop where
 n:k.p.length≤1000
 t:k.t.l.length≤1000000
 tl: -4611686018427387904≤k.t.left∧k.t.left≤4611686018427387904
 a:k.s.length≤1000000
 pl:k.pipes.length≤1000000
 pb:PB 1000000 k.pipes
 pd:∀ q ∈ k.pipes,q.data.size≤1000000
 hl:k.h.length≤1000000
 hs0: -9223372036854775808≤k.hs
 hs1:k.hs≤9223372036854775807
 pid:∀ q ∈ k.p,q.pid≤4611686018427387904
 mem:∀ q ∈ k.p,q.mem.size≤1000000
 tr:k.trace.length≤1000000
 se:k.sent.length≤1000000
 bl:k.box.length≤1000000
 bd:∀ q ∈ k.box,∀ m ∈ q.l,m.body.size≤140737488355328
 co:k.cons.size≤1000000000
 now0:0≤k.now
 now1:k.now≤18446744073709551615
 im:k.images.length≤1000000
theorem z0:(0:Int)≤0:=Int.le_refl 0
theorem z1:(0:Int)<100:=by decide
end Kn
end Go.Proofs.YthgehdghihbiaaaGreatDoor
namespace Go.Proofs.YthgehdghihbiaaaGreatDoor
namespace Kn
def Sorted (l:List Proc):Prop:=l.Pairwise (fun a b=> a.pid<b.pid)
def upd (l:List Proc) (p:Proc):List Proc:=l.map (fun x=> if x.pid=p.pid then p else x)
theorem find_mem {l:List Proc} {pid:Int} {p:Proc} (h:find l pid=some p):p ∈ l∧p.pid=pid:=by
 unfold find at h
 refine ⟨List.mem_of_find?_eq_some h,?_⟩
 have:=List.find?_some h
 simpa using this
theorem find_none_ne {l:List Proc} {pid:Int} (h:find l pid=none):∀ p ∈ l,p.pid ≠ pid:=by
 intro p hp he
 unfold find at h
 rw [List.find?_eq_none] at h
 exact h p hp (by simp [he])
theorem Sorted.uniq {l:List Proc} (hs:Sorted l) {p q:Proc} (hp:p ∈ l) (hq:q ∈ l) (he:p.pid=q.pid):p=q:=by
 induction l with
 |nil=> cases hp
 |cons a l ih=>
  obtain ⟨h1,h2⟩:=List.pairwise_cons.1 hs
  rcases List.mem_cons.1 hp with rfl|hp' <;> rcases List.mem_cons.1 hq with rfl|hq'
  · rfl
  · have:=h1 q hq';omega
  · have:=h1 p hp';omega
  · exact ih h2 hp' hq'
theorem Sorted.find {l:List Proc} (hs:Sorted l) {p:Proc} (hp:p ∈ l):find l p.pid=some p:=by
 cases h:Kn.find l p.pid with
 |none=> exact absurd rfl (find_none_ne h p hp)
 |some q=> rw [hs.uniq (find_mem h).1 hp (find_mem h).2]
theorem upd_of_ne {l:List Proc} {p:Proc} (h:∀ q ∈ l,q.pid ≠ p.pid):upd l p=l:=by
 unfold upd
 conv=> rhs;rw [← List.map_id l]
 exact List.map_congr_left (fun x hx=> if_neg (h x hx))
theorem put_upd {l:List Proc} (hs:Sorted l) {p q:Proc} (hq:q ∈ l) (he:q.pid=p.pid):put l p=upd l p:=by
 unfold put
 cases hi:l.findIdx? (fun x=> x.pid==p.pid) with
 |none=>
  rw [List.findIdx?_eq_none_iff] at hi
  have:=hi q hq
  simp [he] at this
 |some i=>
  dsimp only
  clear hq he
  induction l generalizing i with
  |nil=> cases hi
  |cons a l ih=>
   obtain ⟨h1,h2⟩:=List.pairwise_cons.1 hs
   rw [List.findIdx?_cons] at hi
   by_cases ha:a.pid=p.pid
   · rw [if_pos (by simp [ha])] at hi
     injection hi with hi
     subst hi
     show p::l=upd (a::l) p
     have:upd l p=l:=upd_of_ne (fun x hx=> by have:=h1 x hx;omega)
     show p::l=(if a.pid=p.pid then p else a)::upd l p
     rw [this,if_pos ha]
   · rw [if_neg (by simp [ha])] at hi
     cases hj:l.findIdx? (fun x=> x.pid==p.pid) with
     |none=> rw [hj] at hi;cases hi
     |some j=>
      rw [hj] at hi
      injection hi with hi
      subst hi
      show a::l.set j p=(if a.pid=p.pid then p else a)::upd l p
      rw [if_neg ha,ih h2 j hj]
theorem put_new {l:List Proc} {p:Proc} (hb:∀ q ∈ l,q.pid<p.pid):put l p=l ++ [p]:=by
 unfold put
 rw [List.findIdx?_eq_none_iff.2 (fun x hx=> by have:=hb x hx;simp;omega),List.findIdx?_eq_none_iff.2 (fun x hx=> by have:=hb x hx;simp;omega)]
theorem mem_upd {l:List Proc} {p x:Proc} (h:x ∈ upd l p):x=p∨(x ∈ l∧x.pid ≠ p.pid):=by
 unfold upd at h
 rw [List.mem_map] at h
 obtain ⟨y,hy,rfl⟩:=h
 by_cases he:y.pid=p.pid
 · rw [if_pos he];exact .inl rfl
 · rw [if_neg he];exact .inr ⟨hy,he⟩
theorem upd_mem {l:List Proc} {p q:Proc} (hq:q ∈ l) (he:q.pid=p.pid):p ∈ upd l p:=
 List.mem_map.2 ⟨q,hq,if_pos he⟩
theorem upd_mem_ne {l:List Proc} {p q:Proc} (hq:q ∈ l) (he:q.pid ≠ p.pid):q ∈ upd l p:=
 List.mem_map.2 ⟨q,hq,if_neg he⟩
theorem upd_pid (l:List Proc) (p:Proc):(upd l p).map (·.pid)=l.map (·.pid):=by
 unfold upd
 rw [List.map_map]
 refine List.map_congr_left (fun x _=> ?_)
 show (if x.pid=p.pid then p else x).pid=x.pid
 split
 · next h=> exact h.symm
 · rfl
theorem sorted_pid {l:List Proc}:Sorted l↔(l.map (·.pid)).Pairwise (· < ·):=by
 unfold Sorted
 rw [List.pairwise_map]
theorem Sorted.upd {l:List Proc} (hs:Sorted l) (p:Proc):Sorted (upd l p):=by
 rw [sorted_pid,upd_pid,← sorted_pid]
 exact hs
theorem upd_length (l:List Proc) (p:Proc):(upd l p).length=l.length:=List.length_map _
theorem Sorted.app {l:List Proc} (hs:Sorted l) {p:Proc} (hb:∀ q ∈ l,q.pid<p.pid):Sorted (l ++ [p]):=by
 unfold Sorted
 rw [List.pairwise_append]
 refine ⟨hs,List.pairwise_singleton _ _,fun a ha b hb'=> ?_⟩
 rw [List.mem_singleton] at hb'
 subst hb'
 exact hb a ha
theorem Sorted.remove {l:List Proc} (hs:Sorted l) (pid:Int):Sorted (remove l pid):=List.Pairwise.filter _ hs
theorem mem_remove {l:List Proc} {pid:Int} {x:Proc}:x ∈ remove l pid↔x ∈ l∧x.pid ≠ pid:=by
 unfold Kn.remove
 rw [List.mem_filter]
 simp
def ado (src dst:Int) (p:Proc):Proc:=if p.par=src then {p with par:=dst} else p
theorem adopt_eq (l:List Proc) (src dst:Int):adopt l src dst=l.map (ado src dst):=rfl
theorem ado_pid (src dst:Int) (p:Proc):(ado src dst p).pid=p.pid:=by unfold ado;split <;> rfl
theorem ado_st (src dst:Int) (p:Proc):(ado src dst p).st=p.st:=by unfold ado;split <;> rfl
theorem adopt_pid (l:List Proc) (src dst:Int):(adopt l src dst).map (·.pid)=l.map (·.pid):=by
 rw [adopt_eq,List.map_map]
 exact List.map_congr_left (fun x _=> ado_pid _ _ _)
theorem Sorted.adopt {l:List Proc} (hs:Sorted l) (src dst:Int):Sorted (adopt l src dst):=by
 rw [sorted_pid,adopt_pid,← sorted_pid]
 exact hs
theorem mostGe (l:List Proc) (m:Int):m≤most l m∧∀ q ∈ l,q.pid≤most l m:=by
 induction l generalizing m with
 |nil=> exact ⟨Int.le_refl _,fun q hq=> nomatch hq⟩
 |cons a l ih=>
  have:=ih (max m a.pid)
  refine ⟨Int.le_trans (by omega) this.1,fun q hq=> ?_⟩
  rcases List.mem_cons.1 hq with rfl|hq
  · exact Int.le_trans (by omega) this.1
  · exact this.2 q hq
theorem mostLe (l:List Proc) (m B:Int) (hm:m≤B) (h:∀ q ∈ l,q.pid≤B):most l m≤B:=by
 induction l generalizing m with
 |nil=> exact hm
 |cons a l ih=> exact ih (max m a.pid) (by have:=h a List.mem_cons_self;omega) (fun q hq=> h q (List.mem_cons_of_mem _ hq))
theorem next_gt (l:List Proc):∀ q ∈ l,q.pid<next l:=fun q hq=> by have:=(mostGe l 0).2 q hq;unfold next;omega
theorem next_le {l:List Proc} {B:Int} (hB:0≤B) (h:∀ q ∈ l,q.pid≤B):next l≤B + 1:=by have:=mostLe l 0 B hB h;unfold next;omega
theorem tadd_mem (t:Turn) (pid i:Int):i ∈ (tadd t pid).l↔i ∈ t.l∨i=pid:=by
 unfold tadd
 split
 · next h=>
   constructor
   · exact .inl
   · rintro (h1|rfl)
     · exact h1
     · simpa using h
 · show i ∈ t.l ++ [pid]↔_
   rw [List.mem_append,List.mem_singleton]
theorem tadd_nodup {t:Turn} (h:t.l.Nodup) (pid:Int):(tadd t pid).l.Nodup:=by
 unfold tadd
 split
 · exact h
 · next hc=>
   show (t.l ++ [pid]).Nodup
   rw [List.nodup_append]
   refine ⟨h,by simp,fun a ha b hb=> ?_⟩
   rw [List.mem_singleton] at hb
   subst hb
   intro he
   subst he
   exact hc (by simpa using ha)
theorem tdrop_mem (t:Turn) (pid i:Int):i ∈ (tdrop t pid).l↔i ∈ t.l∧i ≠ pid:=by
 unfold tdrop
 split
 · show i ∈ t.l.filter _↔_
   rw [List.mem_filter]
   simp
 · next h=>
   constructor
   · intro hi
     refine ⟨hi,fun he=> ?_⟩
     subst he
     exact h (by simpa using hi)
   · exact fun h=> h.1
theorem tdrop_nodup {t:Turn} (h:t.l.Nodup) (pid:Int):(tdrop t pid).l.Nodup:=by
 unfold tdrop
 split
 · exact List.Pairwise.filter _ h
 · exact h
theorem tyield_perm (t:Turn):(tyield t).l.Perm t.l:=by
 obtain ⟨l,n⟩:=t
 cases l with
 |nil=> exact List.Perm.refl _
 |cons a l=>
  show (l ++ [a]).Perm (a::l)
  exact List.perm_append_singleton a l
theorem tspend_perm (t:Turn):(tspend t).l.Perm t.l:=by
 unfold tspend
 split
 · exact List.Perm.refl _
 · split
   · exact tyield_perm _
   · exact List.Perm.refl _
def aheadA (a b:Alarm):Prop:=a.at_<b.at_∨(a.at_=b.at_∧a.pid<b.pid)
theorem behind_iff (a b:Alarm):behind a b=true↔aheadA b a:=by
 unfold behind aheadA
 simp only [Bool.or_eq_true,Bool.and_eq_true,decide_eq_true_eq,beq_iff_eq]
 constructor
 · rintro (h|⟨h1,h2⟩)
   · exact .inl h
   · exact .inr ⟨h1.symm,h2⟩
 · rintro (h|⟨h1,h2⟩)
   · exact .inl h
   · exact .inr ⟨h1.symm,h2⟩
theorem aheadA_trans {a b c:Alarm} (h1:aheadA a b) (h2:aheadA b c):aheadA a c:=by
 unfold aheadA at *
 omega
theorem sadd_perm (l:List Alarm) (a:Alarm):(sadd l a).Perm (a::l):=by
 unfold sadd
 split
 · next i hi=>
   unfold ins
   refine (List.perm_middle).trans ?_
   rw [List.take_append_drop]
 · exact List.perm_append_singleton a l
theorem sadd_sorted {l:List Alarm} {a:Alarm} (h:l.Pairwise aheadA) (hne:∀ x ∈ l,x.pid ≠ a.pid):(sadd l a).Pairwise aheadA:=by
 induction l with
 |nil=> exact List.pairwise_singleton _ _
 |cons x l ih=>
  obtain ⟨h1,h2⟩:=List.pairwise_cons.1 h
  have ih:=ih h2 (fun y hy=> hne y (List.mem_cons_of_mem _ hy))
  by_cases hb:behind x a=true
  · have:sadd (x::l) a=a::x::l:=by
     unfold sadd
     rw [List.findIdx?_cons,if_pos hb]
     rfl
    rw [this]
    have hax:=(behind_iff x a).1 hb
    exact List.pairwise_cons.2 ⟨fun y hy=> by
     rcases List.mem_cons.1 hy with rfl|hy
     · exact hax
     · exact aheadA_trans hax (h1 y hy),h⟩
  · have:sadd (x::l) a=x::sadd l a:=by
     unfold sadd
     rw [List.findIdx?_cons,if_neg hb]
     cases l.findIdx? (fun x=> behind x a) <;> rfl
    rw [this]
    refine List.pairwise_cons.2 ⟨fun y hy=> ?_,ih⟩
    rcases List.mem_cons.1 ((sadd_perm l a).mem_iff.1 hy) with rfl|hy
    · have hn:=hne x List.mem_cons_self
      have:¬ aheadA y x:=fun h=> hb ((behind_iff x y).2 h)
      unfold aheadA at *
      omega
    · exact h1 y hy
theorem due_rest (l:List Alarm) (now:Int):due l now ++ (rest l now).map (·.pid)=l.map (·.pid):=by
 unfold due rest
 rw [← List.map_append,List.takeWhile_append_dropWhile]
theorem rest_sorted {l:List Alarm} (h:l.Pairwise aheadA) (now:Int):(rest l now).Pairwise aheadA:=h.sublist (List.dropWhile_sublist _)
theorem sdrop_sorted {l:List Alarm} (h:l.Pairwise aheadA) (pid:Int):(sdrop l pid).Pairwise aheadA:=h.sublist List.filter_sublist
theorem sdrop_pid (l:List Alarm) (pid:Int):(sdrop l pid).map (·.pid)=(l.map (·.pid)).filter (fun x=> !(x==pid)):=by
 unfold sdrop
 rw [List.filter_map]
 rfl
theorem hright_low {size:Int} {l:List Span} {a b:Int} (h:hrightFrom size l b=true) (hab:a≤b):hrightFrom size l a=true:=by
 cases l with
 |nil=> rfl
 |cons s l=>
  unfold hrightFrom at h ⊢
  simp only [Bool.and_eq_true,Bool.not_eq_true',Bool.or_eq_false_iff,decide_eq_false_iff_not] at h ⊢
  refine ⟨⟨⟨⟨by omega,h.1.1.1.2⟩,h.1.1.2⟩,h.1.2⟩,h.2⟩
theorem hright_filter {size:Int} (f:Span→Bool):∀ {l:List Span} {a:Int},hrightFrom size l a=true→hrightFrom size (l.filter f) a=true
 |[],_,h=> h
 |s::l,a,h=> by
  have h0:=h
  unfold hrightFrom at h
  simp only [Bool.and_eq_true,Bool.not_eq_true',Bool.or_eq_false_iff,decide_eq_false_iff_not] at h
  have ih:=hright_filter f h.2
  rw [List.filter_cons]
  split
  · unfold hrightFrom
    simp only [Bool.and_eq_true,Bool.not_eq_true',Bool.or_eq_false_iff,decide_eq_false_iff_not]
    exact ⟨h.1,ih⟩
  · exact hright_low ih (by omega)
theorem hhole_right {size n who:Int} (hn:1≤n):∀ {l:List Span} {c a:Int},0≤c→hrightFrom size l c=true→hhole size n l c=some a→
 c≤a∧hrightFrom size (ins l (l.takeWhile (fun s=> decide (s.at_<a))).length ⟨a,n,who⟩) c=true
 |[],c,a,hc,_,h=> by
  unfold hhole at h
  split at h
  · next hh=>
    injection h with h
    subst h
    refine ⟨Int.le_refl _,?_⟩
    show hrightFrom size [⟨c,n,who⟩] c=true
    unfold hrightFrom
    simp only [Bool.and_eq_true,Bool.not_eq_true',Bool.or_eq_false_iff,decide_eq_false_iff_not]
    exact ⟨⟨⟨⟨by omega,by omega⟩,by omega⟩,by omega⟩,rfl⟩
  · cases h
 |s::l,c,a,hc,hr,h=> by
  have hr0:=hr
  unfold hrightFrom at hr
  simp only [Bool.and_eq_true,Bool.not_eq_true',Bool.or_eq_false_iff,decide_eq_false_iff_not] at hr
  unfold hhole at h
  split at h
  · next hh=>
    injection h with h
    subst h
    refine ⟨Int.le_refl _,?_⟩
    rw [List.takeWhile_cons,if_neg (by simp;omega)]
    show hrightFrom size (⟨c,n,who⟩::s::l) c=true
    unfold hrightFrom
    simp only [Bool.and_eq_true,Bool.not_eq_true',Bool.or_eq_false_iff,decide_eq_false_iff_not]
    refine ⟨⟨⟨⟨by omega,by omega⟩,by omega⟩,by omega⟩,?_⟩
    unfold hrightFrom
    simp only [Bool.and_eq_true,Bool.not_eq_true',Bool.or_eq_false_iff,decide_eq_false_iff_not]
    exact ⟨⟨⟨⟨by omega,by omega⟩,by omega⟩,by omega⟩,hr.2⟩
  · have ih:=hhole_right (who:=who) hn (l:=l) (c:=s.at_ + s.n) (a:=a) (by omega) hr.2 h
    refine ⟨by omega,?_⟩
    rw [List.takeWhile_cons,if_pos (by simp;omega)]
    show hrightFrom size (s::ins l (l.takeWhile (fun s=> decide (s.at_<a))).length ⟨a,n,who⟩) c=true
    unfold hrightFrom
    simp only [Bool.and_eq_true,Bool.not_eq_true',Bool.or_eq_false_iff,decide_eq_false_iff_not]
    exact ⟨hr.1,ih.2⟩
theorem ins_perm {α:Type} (l:List α) (i:Nat) (x:α):(ins l i x).Perm (x::l):=by
 unfold ins
 refine (List.perm_middle).trans ?_
 rw [List.take_append_drop]
theorem htakeE_ok {size:Int} {l:List Span} {n who:Int} (h:(htakeE size l n who).2=0):∃ a,(htakeE size l n who).1.Perm (⟨a,n,who⟩::l)∧hright size (htakeE size l n who).1=true:=by
 unfold htakeE at h ⊢
 split at h
 · exact absurd (show (1:Int)=0 from h) (by decide)
 · next hc=>
   rw [if_neg hc]
   have h1:1≤n:=by omega
   have hr:hright size l=true:=by
    cases hx:hright size l with
    |true=> rfl
    |false=> exact absurd (.inr hx) hc
   unfold hright at hr
   rw [Bool.and_eq_true] at hr
   unfold htake at h ⊢
   cases hh:hhole size n l 0 with
   |none=> rw [hh] at h;exact absurd (show (5:Int)=0 from h) (by decide)
   |some a=>
    refine ⟨a,ins_perm _ _ _,?_⟩
    show hright size (ins l _ _)=true
    unfold hright
    rw [Bool.and_eq_true]
    exact ⟨(hhole_right h1 (Int.le_refl 0) hr.1 hh).2,hr.2⟩
theorem hdrop_right {size:Int} {l:List Span} (h:hright size l=true) (who:Int):hright size (hdrop l who)=true:=by
 unfold hright at h ⊢
 rw [Bool.and_eq_true] at h ⊢
 exact ⟨hright_filter _ h.1,h.2⟩
theorem hdrop_who (l:List Span) (who:Int):(hdrop l who).map (·.who)=(l.map (·.who)).filter (fun x=> !(x==who)):=by
 unfold hdrop
 rw [List.filter_map]
 rfl
def fdn (p:Proc) (n:Int) (e:Bool):Int:=
 (if p.d0=n∧p.e0=e then 1 else 0) + (if p.d1=n∧p.e1=e then 1 else 0) + (if p.d2=n∧p.e2=e then 1 else 0) + (if p.d3=n∧p.e3=e then 1 else 0)
def cnt (l:List Proc) (n:Int) (e:Bool):Int:=(l.map (fun p=> fdn p n e)).sum
theorem fdn_range (p:Proc) (n:Int) (e:Bool):0≤fdn p n e∧fdn p n e≤4:=by
 unfold fdn
 have:∀ (c:Prop) [Decidable c],(0:Int)≤(if c then 1 else 0)∧(if c then 1 else 0:Int)≤1:=fun c _=> by split <;> omega
 have h0:=this (p.d0=n∧p.e0=e)
 have h1:=this (p.d1=n∧p.e1=e)
 have h2:=this (p.d2=n∧p.e2=e)
 have h3:=this (p.d3=n∧p.e3=e)
 omega
theorem cnt_nil (n:Int) (e:Bool):cnt [] n e=0:=rfl
theorem cnt_cons (p:Proc) (l:List Proc) (n:Int) (e:Bool):cnt (p::l) n e=fdn p n e + cnt l n e:=by
 unfold cnt
 rw [List.map_cons,List.sum_cons]
theorem cnt_app (l r:List Proc) (n:Int) (e:Bool):cnt (l ++ r) n e=cnt l n e + cnt r n e:=by
 unfold cnt
 rw [List.map_append,List.sum_append]
theorem cnt_range (l:List Proc) (n:Int) (e:Bool):0≤cnt l n e∧cnt l n e≤4 * l.length:=by
 induction l with
 |nil=> exact ⟨Int.le_refl _,Int.le_refl _⟩
 |cons p l ih=>
  rw [cnt_cons,List.length_cons]
  have:=fdn_range p n e
  omega
theorem cnt_upd {l:List Proc} (hs:Sorted l) {p q:Proc} (hq:q ∈ l) (he:q.pid=p.pid) (n:Int) (e:Bool):cnt (upd l p) n e=cnt l n e - fdn q n e + fdn p n e:=by
 induction l with
 |nil=> cases hq
 |cons a l ih=>
  obtain ⟨h1,h2⟩:=List.pairwise_cons.1 hs
  show cnt ((if a.pid=p.pid then p else a)::upd l p) n e=_
  by_cases ha:a.pid=p.pid
  · rw [if_pos ha,upd_of_ne (fun x hx=> by have:=h1 x hx;omega),cnt_cons,cnt_cons]
    have:q=a:=hs.uniq hq List.mem_cons_self (by omega)
    subst this
    omega
  · rw [if_neg ha,cnt_cons,cnt_cons]
    rcases List.mem_cons.1 hq with rfl|hq
    · exact absurd he ha
    · rw [ih h2 hq]
      omega
theorem cnt_remove {l:List Proc} (hs:Sorted l) {q:Proc} (hq:q ∈ l) (n:Int) (e:Bool):cnt (remove l q.pid) n e=cnt l n e - fdn q n e:=by
 induction l with
 |nil=> cases hq
 |cons a l ih=>
  obtain ⟨h1,h2⟩:=List.pairwise_cons.1 hs
  unfold remove
  rw [List.filter_cons]
  by_cases ha:a.pid=q.pid
  · rw [if_neg (by simp [ha])]
    have:q=a:=hs.uniq hq List.mem_cons_self (by omega)
    subst this
    have:l.filter (fun p=> !(p.pid==q.pid))=l:=List.filter_eq_self.2 (fun x hx=> by have:=h1 x hx;simp;omega)
    rw [this,cnt_cons]
    omega
  · rw [if_pos (by simp [ha])]
    rcases List.mem_cons.1 hq with rfl|hq
    · exact absurd rfl ha
    · have:=ih h2 hq
      unfold remove at this
      rw [cnt_cons,cnt_cons,this]
      omega
theorem fdn_ado (src dst:Int) (p:Proc) (n:Int) (e:Bool):fdn (ado src dst p) n e=fdn p n e:=by
 unfold ado
 split <;> rfl
theorem cnt_adopt (l:List Proc) (src dst:Int) (n:Int) (e:Bool):cnt (adopt l src dst) n e=cnt l n e:=by
 rw [adopt_eq]
 unfold cnt
 rw [List.map_map]
 exact congrArg List.sum (List.map_congr_left (fun x _=> fdn_ado _ _ _ _ _))
def PipesOk (l:List Pipe) (f:Int→Bool→Int):Prop:=∀ (i:Nat) (q:Pipe),l[i]? =some q→q.rd=f ((i:Int) + 1) false∧q.wr=f ((i:Int) + 1) true∧q.data.size≤8
theorem PipesOk.of {l:List Pipe} {f g:Int→Bool→Int} (h:PipesOk l f) (he:∀ n e,1≤n→f n e=g n e):PipesOk l g:=fun i q hq=> by
 have:=h i q hq
 rw [he _ _ (by omega),he _ _ (by omega)] at this
 exact this
theorem plen (l:List Pipe) (d:Int) (e:Bool) (n:Int):(pcount l d e n).length=l.length:=by
 unfold pcount
 split
 · rfl
 · rw [List.length_modify]
theorem PipesOk.count {l:List Pipe} {f:Int→Bool→Int} (h:PipesOk l f) (d:Int) (e:Bool) (b:Int):PipesOk (pcount l d e b) (fun n e'=> f n e' + if d=n∧e=e' then b else 0):=by
 intro i q hq
 have hil:i<(pcount l d e b).length:=(List.getElem?_eq_some_iff.1 hq).1
 rw [plen] at hil
 unfold pcount at hq
 dsimp only
 split at hq
 · next hc=>
   have:=h i q hq
   rw [if_neg (by omega)]
   omega
 · next hc=>
   rw [List.getElem?_modify] at hq
   cases hl:l[i]? with
   |none=> rw [hl] at hq;cases hq
   |some r=>
    have hr:=h i r hl
    rw [hl,Option.map_eq_map,Option.map_some] at hq
    injection hq with hq
    by_cases hd:(d - 1).toNat=i
    · rw [if_pos hd] at hq
      have hd:d=(i:Int) + 1:=by omega
      subst hq
      cases e <;> simp [hd] <;> omega
    · rw [if_neg hd] at hq
      subst hq
      have hd:d ≠ (i:Int) + 1:=by omega
      rw [if_neg (fun h=> hd h.1),if_neg (fun h=> hd h.1)]
      omega
theorem count4_len (l:List Pipe) (p:Proc) (b:Int):(count4 l p b).length=l.length:=by
 unfold count4
 rw [plen,plen,plen,plen]
theorem PipesOk.count4 {l:List Pipe} {f:Int→Bool→Int} (h:PipesOk l f) (p:Proc) (b:Int):PipesOk (count4 l p b) (fun n e=> f n e + b * fdn p n e):=by
 refine ((((h.count p.d0 p.e0 b).count p.d1 p.e1 b).count p.d2 p.e2 b).count p.d3 p.e3 b).of (fun n e _=> ?_)
 unfold fdn
 have:∀ (c:Prop) [Decidable c],(if c then b else 0)=b * (if c then 1 else 0):=fun c _=> by split <;> simp
 rw [this (p.d0=n∧p.e0=e),this (p.d1=n∧p.e1=e),this (p.d2=n∧p.e2=e),this (p.d3=n∧p.e3=e),Int.mul_add,Int.mul_add,Int.mul_add]
 omega
theorem PipesOk.set {l:List Pipe} {f:Int→Bool→Int} (h:PipesOk l f) {j:Nat} {q p:Pipe} (hq:l[j]? =some q) (h1:p.rd=q.rd) (h2:p.wr=q.wr) (h3:p.data.size≤8):PipesOk (l.set j p) f:=by
 intro i r hr
 rw [List.getElem?_set] at hr
 split at hr
 · next he=>
   subst he
   split at hr
   · injection hr with hr
     subst hr
     have:=h j q hq
     exact ⟨h1.trans this.1,h2.trans this.2.1,h3⟩
   · cases hr
 · exact h i r hr
theorem PipesOk.make {l l2:List Pipe} {f:Int→Bool→Int} {n:Nat} (h:PipesOk l f) (h0:∀ n e,0≤f n e) (hout:∀ n e,(l.length:Int)<n→f n e=0) (hm:pmake l=some (l2,n)):
 PipesOk l2 (fun m e=> f m e + if m=(n:Int) then 1 else 0)∧l.length≤l2.length∧l2.length≤max 4 l.length∧1≤n∧n≤l2.length:=by
 unfold pmake at hm
 cases hi:l.findIdx? pfree with
 |some i=>
  rw [hi] at hm
  injection hm with hm
  injection hm with h1 h2
  subst h1
  subst h2
  obtain ⟨hil,hfree,_⟩:=List.findIdx?_eq_some_iff_getElem.1 hi
  refine ⟨?_,by rw [List.length_set];omega,by rw [List.length_set];omega,by omega,by rw [List.length_set];omega⟩
  have hq:=h i _ (List.getElem?_eq_getElem hil)
  unfold pfree at hfree
  rw [Bool.and_eq_true,decide_eq_true_eq,decide_eq_true_eq] at hfree
  have z1:=h0 ((i:Int) + 1) false
  have z2:=h0 ((i:Int) + 1) true
  intro j r hr
  rw [List.getElem?_set] at hr
  split at hr
  · next he=>
    subst he
    injection hr with hr
    subst hr
    dsimp only
    rw [if_pos (by omega)]
    refine ⟨by show (1:Int)=_;omega,by show (1:Int)=_;omega,Nat.zero_le _⟩
  · next he=>
    have:=h j r hr
    dsimp only
    rw [if_neg (by omega)]
    omega
 |none=>
  rw [hi] at hm
  dsimp only at hm
  split at hm
  · cases hm
  · next hlen=>
    injection hm with hm
    injection hm with h1 h2
    subst h1
    subst h2
    refine ⟨?_,by rw [List.length_append];omega,by rw [List.length_append,List.length_singleton];omega,by omega,by rw [List.length_append,List.length_singleton];omega⟩
    intro j r hr
    by_cases hj:j<l.length
    · rw [List.getElem?_append_left hj] at hr
      have:=h j r hr
      dsimp only
      rw [if_neg (by omega)]
      omega
    · have hjl:j<(l ++ [(⟨ByteArray.empty,1,1⟩:Pipe)]).length:=(List.getElem?_eq_some_iff.1 hr).1
      rw [List.length_append,List.length_singleton] at hjl
      have hje:j=l.length:=by omega
      subst hje
      rw [List.getElem?_append_right (Nat.le_refl _),Nat.sub_self] at hr
      injection hr with hr
      subst hr
      dsimp only
      rw [if_pos (by omega),hout _ _ (by omega),hout _ _ (by omega)]
      exact ⟨rfl,rfl,Nat.zero_le _⟩
theorem fdn_setFd {p:Proc} {a:Nat} (h:freeFd p=some a) (d:Int) (e:Bool) (n:Int) (e':Bool) (hn:1≤n):fdn (setFd p a d e) n e'=fdn p n e' + if d=n∧e=e' then 1 else 0:=by
 unfold freeFd at h
 unfold fdn
 by_cases h0:p.d0=0
 · rw [if_pos h0] at h;injection h with h;subst h
   rw [if_neg (fun x:p.d0=n∧p.e0=e'=> by omega)]
   show (if d=n∧e=e' then (1:Int) else 0) + _ + _ + _=_
   simp only [setFd]
   omega
 by_cases h1:p.d1=0
 · rw [if_neg h0,if_pos h1] at h;injection h with h;subst h
   rw [if_neg (fun x:p.d1=n∧p.e1=e'=> by omega)]
   simp only [setFd]
   omega
 by_cases h2:p.d2=0
 · rw [if_neg h0,if_neg h1,if_pos h2] at h;injection h with h;subst h
   rw [if_neg (fun x:p.d2=n∧p.e2=e'=> by omega)]
   simp only [setFd]
   omega
 by_cases h3:p.d3=0
 · rw [if_neg h0,if_neg h1,if_neg h2,if_pos h3] at h;injection h with h;subst h
   rw [if_neg (fun x:p.d3=n∧p.e3=e'=> by omega)]
   simp only [setFd]
   omega
 rw [if_neg h0,if_neg h1,if_neg h2,if_neg h3] at h
 cases h
theorem fdn_clear (p:Proc) (a:Nat) (n:Int) (e':Bool) (hn:1≤n):fdn (setFd p a 0 false) n e'=fdn p n e' - if (getFd p a).1=n∧(getFd p a).2=e' then 1 else 0:=by
 have hz:¬ ((0:Int)=n∧false=e'):=fun h=> by omega
 match a with
 |0=>
  show ((if (0:Int)=n∧false=e' then (1:Int) else 0) + (if p.d1=n∧p.e1=e' then 1 else 0) + (if p.d2=n∧p.e2=e' then 1 else 0) + (if p.d3=n∧p.e3=e' then 1 else 0):Int)=(if p.d0=n∧p.e0=e' then 1 else 0) + (if p.d1=n∧p.e1=e' then 1 else 0) + (if p.d2=n∧p.e2=e' then 1 else 0) + (if p.d3=n∧p.e3=e' then 1 else 0) - (if p.d0=n∧p.e0=e' then 1 else 0)
  rw [if_neg hz]
  omega
 |1=>
  show ((if p.d0=n∧p.e0=e' then 1 else 0) + (if (0:Int)=n∧false=e' then (1:Int) else 0) + (if p.d2=n∧p.e2=e' then 1 else 0) + (if p.d3=n∧p.e3=e' then 1 else 0):Int)=(if p.d0=n∧p.e0=e' then 1 else 0) + (if p.d1=n∧p.e1=e' then 1 else 0) + (if p.d2=n∧p.e2=e' then 1 else 0) + (if p.d3=n∧p.e3=e' then 1 else 0) - (if p.d1=n∧p.e1=e' then 1 else 0)
  rw [if_neg hz]
  omega
 |2=>
  show ((if p.d0=n∧p.e0=e' then 1 else 0) + (if p.d1=n∧p.e1=e' then 1 else 0) + (if (0:Int)=n∧false=e' then (1:Int) else 0) + (if p.d3=n∧p.e3=e' then 1 else 0):Int)=(if p.d0=n∧p.e0=e' then 1 else 0) + (if p.d1=n∧p.e1=e' then 1 else 0) + (if p.d2=n∧p.e2=e' then 1 else 0) + (if p.d3=n∧p.e3=e' then 1 else 0) - (if p.d2=n∧p.e2=e' then 1 else 0)
  rw [if_neg hz]
  omega
 |a + 3=>
  show ((if p.d0=n∧p.e0=e' then 1 else 0) + (if p.d1=n∧p.e1=e' then 1 else 0) + (if p.d2=n∧p.e2=e' then 1 else 0) + (if (0:Int)=n∧false=e' then (1:Int) else 0):Int)=(if p.d0=n∧p.e0=e' then 1 else 0) + (if p.d1=n∧p.e1=e' then 1 else 0) + (if p.d2=n∧p.e2=e' then 1 else 0) + (if p.d3=n∧p.e3=e' then 1 else 0) - (if p.d3=n∧p.e3=e' then 1 else 0)
  rw [if_neg hz]
  omega
def W32 (x:Int):Prop:=0≤x∧x<4294967296
structure PWord (p:Proc):Prop where
 rs:Words [p.r0,p.r1,p.r2,p.r3,p.r4,p.r5,p.r6,p.r7]
 pc:W32 p.pc
 wn:W32 p.wn
 wa:W32 p.wa
 wb:W32 p.wb
 wc:W32 p.wc
structure noFd (p:Proc):Prop where
 d0:p.d0=0
 e0:p.e0=false
 d1:p.d1=0
 e1:p.e1=false
 d2:p.d2=0
 e2:p.e2=false
 d3:p.d3=0
 e3:p.e3=false
theorem noFd.fdn {p:Proc} (h:noFd p) {n:Int} (hn:1≤n) (e:Bool):fdn p n e=0:=by
 unfold Kn.fdn
 rw [h.d0,h.d1,h.d2,h.d3,if_neg (by omega),if_neg (by omega),if_neg (by omega),if_neg (by omega)]
 rfl
structure TabOk (l:List Proc):Prop where
 so:Sorted l
 st:∀ p ∈ l,1≤p.st∧p.st≤4
 mem:∀ p ∈ l,p.mem.size=64
 wd:∀ p ∈ l,PWord p
 par:∀ p ∈ l,(p.pid=1∧p.par=0∧p.st ≠ 4)∨(1≤p.par∧p.par<p.pid∧∃ q ∈ l,q.pid=p.par∧q.st ≠ 4)
 fd:∀ p ∈ l,p.st=4→noFd p
theorem TabOk.pos {l:List Proc} (h:TabOk l):∀ p ∈ l,1≤p.pid:=fun p hp=> by
 rcases h.par p hp with h|h <;> omega
theorem TabOk.one {l:List Proc} (h:TabOk l) (hne:l ≠ []):∃ p ∈ l,p.pid=1∧p.st ≠ 4:=by
 cases l with
 |nil=> exact absurd rfl hne
 |cons a l=>
  rcases h.par a List.mem_cons_self with h1|⟨h1,h2,q,hq,h3,h4⟩
  · exact ⟨a,List.mem_cons_self,h1.1,h1.2.2⟩
  · exfalso
    rcases List.mem_cons.1 hq with rfl|hq
    · omega
    · have:=(List.pairwise_cons.1 h.so).1 q hq
      omega
theorem TabOk.nil:TabOk []:=⟨List.Pairwise.nil,fun p h=> (nomatch h),fun p h=> (nomatch h),fun p h=> (nomatch h),fun p h=> (nomatch h),fun p h=> (nomatch h)⟩
theorem TabOk.upd {l:List Proc} (h:TabOk l) {p p':Proc} (hp:p ∈ l) (he:p'.pid=p.pid) (hpar:p'.par=p.par) (hs:1≤p'.st∧p'.st≤4) (hm:p'.mem.size=64) (hw:PWord p')
 (hd:p'.st=4→noFd p'∧p.pid ≠ 1∧∀ q ∈ l,q.par ≠ p.pid):TabOk (upd l p'):=by
 have hin:p' ∈ Kn.upd l p':=upd_mem hp he.symm
 have live:∀ y ∈ l,(∃ q ∈ l,q.pid=y.par∧q.st ≠ 4)→∃ q ∈ Kn.upd l p',q.pid=y.par∧q.st ≠ 4:=by
  rintro y hy ⟨q,hq,h1,h2⟩
  by_cases hqp:q.pid=p.pid
  · refine ⟨p',hin,by omega,fun h4=> ?_⟩
    exact (hd h4).2.2 y hy (by omega)
  · exact ⟨q,upd_mem_ne hq (by omega),h1,h2⟩
 refine ⟨h.so.upd p',fun x hx=> ?_,fun x hx=> ?_,fun x hx=> ?_,fun x hx=> ?_,fun x hx h4=> ?_⟩
 · rcases mem_upd hx with rfl|⟨hx,_⟩
   · exact hs
   · exact h.st x hx
 · rcases mem_upd hx with rfl|⟨hx,_⟩
   · exact hm
   · exact h.mem x hx
 · rcases mem_upd hx with rfl|⟨hx,_⟩
   · exact hw
   · exact h.wd x hx
 · rcases mem_upd hx with rfl|⟨hx,_⟩
   · rcases h.par p hp with ⟨h1,h2,h3⟩|⟨h1,h2,h3⟩
     · exact .inl ⟨by omega,by omega,fun h4=> (hd h4).2.1 h1⟩
     · have:=live p hp h3
       rw [← hpar] at this
       exact .inr ⟨by omega,by omega,this⟩
   · rcases h.par x hx with h1|⟨h1,h2,h3⟩
     · exact .inl h1
     · exact .inr ⟨h1,h2,live x hx h3⟩
 · rcases mem_upd hx with rfl|⟨hx,_⟩
   · exact (hd h4).1
   · exact h.fd x hx h4
theorem TabOk.app {l:List Proc} (h:TabOk l) {p:Proc} (hb:∀ q ∈ l,q.pid<p.pid) (hs:p.st=1) (hm:p.mem.size=64) (hw:PWord p)
 (hpar:(p.pid=1∧p.par=0)∨∃ q ∈ l,q.pid=p.par∧q.st ≠ 4):TabOk (l ++ [p]):=by
 have inl:∀ {x},x ∈ l→x ∈ l ++ [p]:=fun hx=> List.mem_append_left _ hx
 have cas:∀ {x},x ∈ l ++ [p]→x ∈ l∨x=p:=fun hx=> by simpa using hx
 refine ⟨h.so.app hb,fun x hx=> ?_,fun x hx=> ?_,fun x hx=> ?_,fun x hx=> ?_,fun x hx h4=> ?_⟩
 · rcases cas hx with hx|rfl
   · exact h.st x hx
   · omega
 · rcases cas hx with hx|rfl
   · exact h.mem x hx
   · exact hm
 · rcases cas hx with hx|rfl
   · exact h.wd x hx
   · exact hw
 · rcases cas hx with hx|rfl
   · rcases h.par x hx with h1|⟨h1,h2,q,hq,h3⟩
     · exact .inl h1
     · exact .inr ⟨h1,h2,q,inl hq,h3⟩
   · rcases hpar with h1|⟨q,hq,h1,h2⟩
     · exact .inl ⟨h1.1,h1.2,by omega⟩
     · have:=h.pos q hq
       have:=hb q hq
       exact .inr ⟨by omega,by omega,q,inl hq,h1,h2⟩
 · rcases cas hx with hx|rfl
   · exact h.fd x hx h4
   · omega
theorem TabOk.remove {l:List Proc} (h:TabOk l) {q:Proc} (hq:q ∈ l) (h4:q.st=4):TabOk (remove l q.pid):=by
 have out:∀ {x},x ∈ Kn.remove l q.pid→x ∈ l:=fun hx=> (mem_remove.1 hx).1
 refine ⟨h.so.remove _,fun x hx=> h.st x (out hx),fun x hx=> h.mem x (out hx),fun x hx=> h.wd x (out hx),fun x hx=> ?_,fun x hx=> h.fd x (out hx)⟩
 rcases h.par x (out hx) with h1|⟨h1,h2,r,hr,h3,h5⟩
 · exact .inl h1
 · refine .inr ⟨h1,h2,r,mem_remove.2 ⟨hr,fun he=> h5 ?_⟩,h3,h5⟩
   rw [h.so.uniq hr hq he]
   exact h4
theorem TabOk.adopt {l:List Proc} (h:TabOk l) {pid:Int} (hp:pid ≠ 1) (h1:1≤pid):TabOk (adopt l pid 1)∧∀ q ∈ adopt l pid 1,q.par ≠ pid:=by
 rw [adopt_eq]
 have img:∀ {x},x ∈ l.map (ado pid 1)→∃ y ∈ l,ado pid 1 y=x:=fun hx=> List.mem_map.1 hx
 have hst:∀ y,(ado pid 1 y).st=y.st:=ado_st pid 1
 have hpid:∀ y,(ado pid 1 y).pid=y.pid:=ado_pid pid 1
 refine ⟨⟨h.so.adopt pid 1,fun x hx=> ?_,fun x hx=> ?_,fun x hx=> ?_,fun x hx=> ?_,fun x hx h4=> ?_⟩,fun x hx=> ?_⟩
 · obtain ⟨y,hy,rfl⟩:=img hx
   rw [hst]
   exact h.st y hy
 · obtain ⟨y,hy,rfl⟩:=img hx
   unfold ado
   split <;> exact h.mem y hy
 · obtain ⟨y,hy,rfl⟩:=img hx
   have:=h.wd y hy
   unfold ado
   split
   · exact ⟨this.rs,this.pc,this.wn,this.wa,this.wb,this.wc⟩
   · exact this
 · obtain ⟨y,hy,rfl⟩:=img hx
   rw [hpid,hst]
   by_cases hyp:y.par=pid
   · have e:(ado pid 1 y).par=1:=by unfold ado;rw [if_pos hyp]
     rw [e]
     rcases h.par y hy with g|⟨g1,g2,_⟩
     · omega
     · obtain ⟨o,ho,o1,o2⟩:=h.one (List.ne_nil_of_mem hy)
       exact .inr ⟨by omega,by omega,ado pid 1 o,List.mem_map_of_mem ho,by rw [hpid];exact o1,by rw [hst];exact o2⟩
   · have e:(ado pid 1 y).par=y.par:=by unfold ado;rw [if_neg hyp]
     rw [e]
     rcases h.par y hy with g|⟨g1,g2,q,hq,g3,g4⟩
     · exact .inl g
     · exact .inr ⟨g1,g2,ado pid 1 q,List.mem_map_of_mem hq,by rw [hpid];exact g3,by rw [hst];exact g4⟩
 · obtain ⟨y,hy,rfl⟩:=img hx
   rw [hst] at h4
   have:=h.fd y hy h4
   unfold ado
   split
   · exact ⟨this.d0,this.e0,this.d1,this.e1,this.d2,this.e2,this.d3,this.e3⟩
   · exact this
 · obtain ⟨y,hy,rfl⟩:=img hx
   unfold ado
   split
   · show (1:Int) ≠ pid
     omega
   · next hn=> exact hn
def Keys (l:List Int) (ps:List Proc) (pr:Int→Prop):Prop:=l.Nodup∧∀ i,i ∈ l↔∃ p ∈ ps,p.pid=i∧pr p.st
section
variable {l l':List Int} {ps:List Proc} {pr:Int→Prop} {p p':Proc}
theorem Keys.at (h:Keys l ps pr) (hs:Sorted ps) (hp:p ∈ ps):p.pid ∈ l↔pr p.st:=by
 rw [h.2]
 constructor
 · rintro ⟨q,hq,h1,h2⟩
   rwa [hs.uniq hq hp h1] at h2
 · exact fun h=> ⟨p,hp,rfl,h⟩
theorem Keys.nil (pr:Int→Prop):Keys [] [] pr:=⟨List.nodup_nil,fun i=> ⟨fun h=> (nomatch h),fun ⟨p,h,_⟩=> (nomatch h)⟩⟩
theorem Keys.perm (h:Keys l ps pr) (hp:l'.Perm l):Keys l' ps pr:=⟨hp.nodup_iff.2 h.1,fun i=> by rw [hp.mem_iff,h.2]⟩
theorem Keys.upd (h:Keys l ps pr) (hs:Sorted ps) (hp:p ∈ ps) (he:p'.pid=p.pid) (hn:l'.Nodup) (hm:∀ i,i ∈ l'↔(i ≠ p.pid∧i ∈ l)∨(i=p.pid∧pr p'.st)):Keys l' (upd ps p') pr:=by
 refine ⟨hn,fun i=> ?_⟩
 rw [hm]
 constructor
 · rintro (⟨h1,h2⟩|⟨h1,h2⟩)
   · obtain ⟨q,hq,h3,h4⟩:=(h.2 i).1 h2
     exact ⟨q,upd_mem_ne hq (by omega),h3,h4⟩
   · exact ⟨p',upd_mem hp he.symm,by omega,h2⟩
 · rintro ⟨q,hq,h3,h4⟩
   rcases mem_upd hq with rfl|⟨hq,h5⟩
   · exact .inr ⟨by omega,h4⟩
   · exact .inl ⟨by omega,(h.2 i).2 ⟨q,hq,h3,h4⟩⟩
theorem Keys.same (h:Keys l ps pr) (hs:Sorted ps) (hp:p ∈ ps) (he:p'.pid=p.pid) (hst:pr p'.st↔pr p.st):Keys l (Kn.upd ps p') pr:=by
 refine h.upd hs hp he h.1 (fun i=> ?_)
 by_cases hi:i=p.pid
 · subst hi
   rw [h.at hs hp,hst]
   simp
 · simp [hi]
theorem Keys.more (h:Keys l ps pr) (hb:∀ q ∈ ps,q.pid<p.pid) (hn:l'.Nodup) (hm:∀ i,i ∈ l'↔i ∈ l∨(i=p.pid∧pr p.st)):Keys l' (ps ++ [p]) pr:=by
 refine ⟨hn,fun i=> ?_⟩
 rw [hm,h.2]
 constructor
 · rintro (⟨q,hq,h1⟩|⟨h1,h2⟩)
   · exact ⟨q,List.mem_append_left _ hq,h1⟩
   · exact ⟨p,by simp,h1.symm,h2⟩
 · rintro ⟨q,hq,h1,h2⟩
   rcases (by simpa using hq:q ∈ ps∨q=p) with hq|rfl
   · exact .inl ⟨q,hq,h1,h2⟩
   · exact .inr ⟨h1.symm,h2⟩
theorem Keys.remove (h:Keys l ps pr) (hs:Sorted ps) (hp:p ∈ ps) (hn:¬ pr p.st):Keys l (remove ps p.pid) pr:=by
 refine ⟨h.1,fun i=> ?_⟩
 rw [h.2]
 constructor
 · rintro ⟨q,hq,h1,h2⟩
   refine ⟨q,mem_remove.2 ⟨hq,fun he=> hn ?_⟩,h1,h2⟩
   rwa [← hs.uniq hq hp he]
 · rintro ⟨q,hq,h1⟩
   exact ⟨q,(mem_remove.1 hq).1,h1⟩
theorem Keys.adopt (h:Keys l ps pr) (src dst:Int):Keys l (adopt ps src dst) pr:=by
 refine ⟨h.1,fun i=> ?_⟩
 rw [h.2,adopt_eq]
 constructor
 · rintro ⟨q,hq,h1,h2⟩
   exact ⟨ado src dst q,List.mem_map_of_mem hq,by rw [ado_pid];exact h1,by rw [ado_st];exact h2⟩
 · rintro ⟨q,hq,h1,h2⟩
   obtain ⟨y,hy,rfl⟩:=List.mem_map.1 hq
   rw [ado_pid] at h1
   rw [ado_st] at h2
   exact ⟨y,hy,h1,h2⟩
end
structure PO (l:List Pipe) (ps:List Proc):Prop where
 ok:PipesOk l (cnt ps)
 n:l.length≤4
 out:∀ n e,(l.length:Int)<n→cnt ps n e=0
theorem PO.of {l:List Pipe} {ps qs:List Proc} (h:PO l ps) (he:∀ n e,1≤n→cnt ps n e=cnt qs n e):PO l qs:=⟨h.ok.of he,h.n,fun n e hn=> by rw [← he n e (by omega)];exact h.out n e hn⟩
theorem PO.upd {l:List Pipe} {ps:List Proc} (h:PO l ps) (hs:Sorted ps) {p p':Proc} (hp:p ∈ ps) (he:p'.pid=p.pid) (hf:∀ n e,1≤n→fdn p' n e=fdn p n e):PO l (Kn.upd ps p'):=h.of (fun n e hn=> by
 rw [cnt_upd hs hp he.symm,hf n e hn]
 omega)
end Kn
end Go.Proofs.YthgehdghihbiaaaGreatDoor
namespace Go.Proofs.YthgehdghihbiaaaGreatDoor
namespace Kn
theorem w32_mod (x:Int):W32 (x % 4294967296):=by unfold W32;omega
theorem w32_0:W32 0:=by unfold W32;omega
structure Inv (D:List Int) (k:Kern):Prop where
 tab:TabOk k.p
 n6:k.p.length≤6
 tn:Keys k.t.l k.p (fun s=> s=1)
 tl:0≤k.t.left∧k.t.left≤5
 so:k.s.Pairwise aheadA
 al:Keys (k.s.map (·.pid) ++ D) k.p (fun s=> s=3)
 hr:hright k.hs k.h=true
 h64:∀ s ∈ k.h,s.n=64
 hp:Keys (k.h.map (·.who)) k.p (fun s=> s ≠ 4)
 po:PO k.pipes k.p
structure Like (p' p:Proc):Prop where
 pid:p'.pid=p.pid
 par:p'.par=p.par
 mem:p'.mem.size=64
 wd:PWord p'
 fd:∀ n e,1≤n→fdn p' n e=fdn p n e
theorem Inv.like {D:List Int} {k:Kern} (h:Inv D k) {p:Proc} (hp:p ∈ k.p):Like p p:=⟨rfl,rfl,h.tab.mem p hp,h.tab.wd p hp,fun _ _ _=> rfl⟩
section
variable {D D':List Int} {k k':Kern} {p p':Proc} {x:Proc}
theorem Inv.upd (h:Inv D k) (hp:p ∈ k.p) (hk:Like p' p) (hst:p.st ≠ 4) (hs0:1≤p'.st) (hs1:p'.st≤3) (e1:k'.p=put k.p p') (e3:k'.hs=k.hs) (e4:k'.h=k.h) (e5:k'.pipes=k.pipes)
 (ht:Keys k'.t.l (Kn.upd k.p p') (fun s=> s=1)) (htl:0≤k'.t.left∧k'.t.left≤5) (hso:k'.s.Pairwise aheadA) (hal:Keys (k'.s.map (·.pid) ++ D') (Kn.upd k.p p') (fun s=> s=3)):Inv D' k':=by
 have hu:put k.p p'=Kn.upd k.p p':=put_upd h.tab.so hp hk.pid.symm
 rw [hu] at e1
 refine ⟨?_,?_,?_,htl,hso,?_,?_,?_,?_,?_⟩
 · rw [e1]
   exact h.tab.upd hp hk.pid hk.par ⟨hs0,by omega⟩ hk.mem hk.wd (fun h4=> by omega)
 · rw [e1,upd_length]
   exact h.n6
 · rw [e1]
   exact ht
 · rw [e1]
   exact hal
 · rw [e3,e4]
   exact h.hr
 · rw [e4]
   exact h.h64
 · rw [e1,e4]
   exact h.hp.same h.tab.so hp hk.pid (by constructor <;> intro _ <;> omega)
 · rw [e1,e5]
   exact h.po.upd h.tab.so hp hk.pid hk.fd
theorem Inv.change (h:Inv D k) (hp:p ∈ k.p) (hk:Like p' p) (hst:p.st ≠ 4) (hs:p'.st=p.st) (e1:k'.p=put k.p p') (e3:k'.hs=k.hs) (e4:k'.h=k.h) (e5:k'.pipes=k.pipes) (e6:k'.t=k.t) (e7:k'.s=k.s):Inv D k':=by
 have:=h.tab.st p hp
 refine h.upd hp hk hst (by omega) (by omega) e1 e3 e4 e5 ?_ (by rw [e6];exact h.tl) (by rw [e7];exact h.so) ?_
 · rw [e6]
   exact h.tn.same h.tab.so hp hk.pid (by rw [hs])
 · rw [e7]
   exact h.al.same h.tab.so hp hk.pid (by rw [hs])
theorem cval_word {e v:Int} (hv:W32 v):W32 (cval e v):=by
 unfold cval W32 at *
 split
 · exact hv
 · omega
theorem Words.set0 {a b c d e f g i x:Int} (h:Words [a,b,c,d,e,f,g,i]) (hx:W32 x):Words [x,b,c,d,e,f,g,i]:=by
 refine ⟨rfl,fun y hy=> ?_⟩
 rcases List.mem_cons.1 hy with rfl|hy
 · exact hx
 · exact h.2 y (List.mem_cons_of_mem _ hy)
theorem Like.back (h:Like p' p) {v e:Int} (hv:W32 v):Like (back p' v e) p:=
 ⟨h.pid,h.par,h.mem,⟨Words.set0 h.wd.rs (cval_word hv),h.wd.pc,w32_0,w32_0,w32_0,w32_0⟩,h.fd⟩
theorem tadd_left {t:Turn} (h:0≤t.left∧t.left≤5) (i:Int):0≤(tadd t i).left∧(tadd t i).left≤5:=by
 unfold tadd
 split
 · exact h
 · dsimp only
   split <;> omega
theorem tdrop_left {t:Turn} (h:0≤t.left∧t.left≤5) (i:Int):0≤(tdrop t i).left∧(tdrop t i).left≤5:=by
 unfold tdrop
 split
 · dsimp only
   split <;> omega
 · exact h
theorem tyield_left {t:Turn} (h:0≤t.left∧t.left≤5):0≤(tyield t).left∧(tyield t).left≤5:=by
 unfold tyield
 split
 · exact h
 · dsimp only
   omega
theorem tspend_left {t:Turn} (h:0≤t.left∧t.left≤5):0≤(tspend t).left∧(tspend t).left≤5:=by
 unfold tspend
 split
 · exact h
 · next hne=>
   split
   · unfold tyield
     split
     · next hl=> exact absurd hl hne
     · dsimp only
       omega
   · dsimp only
     omega
theorem Inv.answer (h:Inv D k) (hp:p ∈ k.p) (hk:Like p' p) (h1:p.st=1) {v e:Int} (hv:W32 v) (x:Call):Inv D (Kn.answer k p' x v e):=by
 refine h.upd (p':=Kn.back p' v e) hp (hk.back hv) (by omega) (show (1:Int)≤1 by decide) (show (1:Int)≤3 by decide) rfl rfl rfl rfl ?_ h.tl h.so ?_
 · exact h.tn.same h.tab.so hp (hk.back (e:=e) hv).pid (by rw [h1];exact Iff.rfl)
 · exact h.al.same h.tab.so hp (hk.back (e:=e) hv).pid (by rw [h1];exact Iff.rfl)
theorem Inv.wake2 (h:Inv D k) (hp:p ∈ k.p) (h2:p.st=2) {v e:Int} (hv:W32 v) (x:Call):Inv D {Kn.answer k p x v e with t:=tadd k.t p.pid}:=by
 refine h.upd (p':=Kn.back p v e) hp ((h.like hp).back hv) (by omega) (show (1:Int)≤1 by decide) (show (1:Int)≤3 by decide) rfl rfl rfl rfl ?_ (tadd_left h.tl _) h.so ?_
 · refine h.tn.upd h.tab.so hp rfl (tadd_nodup h.tn.1 _) (fun i=> ?_)
   rw [tadd_mem]
   show _↔_∨(_∧(1:Int)=1)
   by_cases hi:i=p.pid <;> simp [hi]
 · exact h.al.same h.tab.so hp rfl (by rw [h2];show ((1:Int)=3)↔_;decide)
theorem Inv.wake3 (h:Inv (p.pid::D) k) (hp:p ∈ k.p) (h3:p.st=3) {v e:Int} (hv:W32 v) (x:Call):Inv D {Kn.answer k p x v e with t:=tadd k.t p.pid}:=by
 have hnd:((k.s.map (·.pid)) ++ D).Nodup∧p.pid ∉ (k.s.map (·.pid)) ++ D:=by
  have:=(List.perm_middle (a:=p.pid) (l₁:=k.s.map (·.pid)) (l₂:=D)).nodup_iff.1 h.al.1
  rw [List.nodup_cons] at this
  exact ⟨this.2,this.1⟩
 refine h.upd (p':=Kn.back p v e) hp ((h.like hp).back hv) (by omega) (show (1:Int)≤1 by decide) (show (1:Int)≤3 by decide) rfl rfl rfl rfl ?_ (tadd_left h.tl _) h.so ?_
 · refine h.tn.upd h.tab.so hp rfl (tadd_nodup h.tn.1 _) (fun i=> ?_)
   rw [tadd_mem]
   show _↔_∨(_∧(1:Int)=1)
   by_cases hi:i=p.pid <;> simp [hi]
 · refine h.al.upd h.tab.so hp rfl hnd.1 (fun i=> ?_)
   have hm:=(List.perm_middle (a:=p.pid) (l₁:=k.s.map (·.pid)) (l₂:=D)).mem_iff (a:=i)
   rw [hm,List.mem_cons]
   show i ∈ k.s.map (·.pid) ++ D↔_∨(_∧(1:Int)=3)
   constructor
   · intro hi
     exact .inl ⟨fun he=> hnd.2 (he ▸ hi),.inr hi⟩
   · rintro (⟨h1,h2|h2⟩|⟨_,h2⟩)
     · exact absurd h2 h1
     · exact h2
     · exact absurd h2 (by decide)
theorem Inv.stops2 (h:Inv D k) (hp:p ∈ k.p) (h1:p.st=1) (x:Call) (hn:W32 x.n) (ha:W32 x.a) (hb:W32 x.b) (hc:W32 x.c):Inv D (stops k p 2 x):=by
 have hk:Like ({p with st:=2,wn:=x.n,wa:=x.a,wb:=x.b,wc:=x.c}:Proc) p:=⟨rfl,rfl,h.tab.mem p hp,⟨(h.tab.wd p hp).rs,(h.tab.wd p hp).pc,hn,ha,hb,hc⟩,fun _ _ _=> rfl⟩
 refine h.upd hp hk (by omega) (show (1:Int)≤2 by decide) (show (2:Int)≤3 by decide) rfl rfl rfl rfl ?_ (tdrop_left h.tl _) h.so ?_
 · refine h.tn.upd h.tab.so hp rfl (tdrop_nodup h.tn.1 _) (fun i=> ?_)
   show i ∈ (tdrop k.t p.pid).l↔_∨(_∧(2:Int)=1)
   rw [tdrop_mem]
   simp
   exact And.comm
 · exact h.al.same h.tab.so hp rfl (by rw [h1];show ((2:Int)=3)↔_;decide)
theorem Inv.stops3 (h:Inv [] k) (hp:p ∈ k.p) (h1:p.st=1) (x:Call) (hn:W32 x.n) (ha:W32 x.a) (hb:W32 x.b) (hc:W32 x.c) (at_:Int):Inv [] {stops k p 3 x with s:=sadd k.s ⟨at_,p.pid⟩}:=by
 have hk:Like ({p with st:=3,wn:=x.n,wa:=x.a,wb:=x.b,wc:=x.c}:Proc) p:=⟨rfl,rfl,h.tab.mem p hp,⟨(h.tab.wd p hp).rs,(h.tab.wd p hp).pc,hn,ha,hb,hc⟩,fun _ _ _=> rfl⟩
 have hout:p.pid ∉ k.s.map (·.pid):=by
  have:=mt (h.al.at h.tab.so hp).1 (by rw [h1];decide)
  simpa using this
 have hperm:((sadd k.s ⟨at_,p.pid⟩).map (·.pid)).Perm (p.pid::k.s.map (·.pid)):=(sadd_perm k.s ⟨at_,p.pid⟩).map _
 refine h.upd hp hk (by omega) (show (1:Int)≤3 by decide) (show (3:Int)≤3 by decide) rfl rfl rfl rfl ?_ (tdrop_left h.tl _) ?_ ?_
 · refine h.tn.upd h.tab.so hp rfl (tdrop_nodup h.tn.1 _) (fun i=> ?_)
   show i ∈ (tdrop k.t p.pid).l↔_∨(_∧(3:Int)=1)
   rw [tdrop_mem]
   simp
   exact And.comm
 · exact sadd_sorted h.so (fun y hy he=> hout (List.mem_map.2 ⟨y,hy,he⟩))
 · show Keys ((sadd k.s ⟨at_,p.pid⟩).map (·.pid) ++ []) _ _
   rw [List.append_nil]
   have hal:=h.al
   rw [List.append_nil] at hal
   refine hal.upd h.tab.so hp rfl (hperm.nodup_iff.2 (List.nodup_cons.2 ⟨hout,hal.1⟩)) (fun i=> ?_)
   rw [hperm.mem_iff,List.mem_cons]
   show _↔_∨(_∧(3:Int)=3)
   by_cases hi:i=p.pid
   · simp [hi]
   · simp [hi]
end
theorem inM_size {m:ByteArray} {a:Int} {s:ByteArray} (h0:0≤a):(Sg.inM m a s).size=m.size:=by
 unfold Sg.inM
 split
 · rename_i h
   simp only [Sg.has,decide_eq_true_eq] at h
   refine Sg.put_size ?_
   have e:s.data.toList.length=s.size:=Array.length_toList
   rw [e]
   omega
 · rfl
theorem setFd_keeps (p:Proc) (a:Nat) (d:Int) (e:Bool):(setFd p a d e).pid=p.pid∧(setFd p a d e).par=p.par∧(setFd p a d e).mem=p.mem∧(setFd p a d e).st=p.st∧(PWord p→PWord (setFd p a d e)):=by
 match a with
 |0=> exact ⟨rfl,rfl,rfl,rfl,fun h=> ⟨h.rs,h.pc,h.wn,h.wa,h.wb,h.wc⟩⟩
 |1=> exact ⟨rfl,rfl,rfl,rfl,fun h=> ⟨h.rs,h.pc,h.wn,h.wa,h.wb,h.wc⟩⟩
 |2=> exact ⟨rfl,rfl,rfl,rfl,fun h=> ⟨h.rs,h.pc,h.wn,h.wa,h.wb,h.wc⟩⟩
 |a + 3=> exact ⟨rfl,rfl,rfl,rfl,fun h=> ⟨h.rs,h.pc,h.wn,h.wa,h.wb,h.wc⟩⟩
section
variable {D:List Int} {k k':Kern} {p p':Proc}
theorem Inv.ends_ (h:Inv D k) (hp:p ∈ k.p) (hst:p.st ≠ 4) (h1:p'.pid=p.pid) (h2:p'.par=p.par) (h3:p'.mem=p.mem) (h4:p'.st=p.st) (h5:PWord p') (e1:k'.p=put k.p p') (e3:k'.hs=k.hs) (e4:k'.h=k.h) (e6:k'.t=k.t) (e7:k'.s=k.s)
 (hpo:PO k'.pipes (Kn.upd k.p p')):Inv D k':=by
 have hu:put k.p p'=Kn.upd k.p p':=put_upd h.tab.so hp h1.symm
 rw [hu] at e1
 have:=h.tab.st p hp
 refine ⟨?_,?_,?_,by rw [e6];exact h.tl,by rw [e7];exact h.so,?_,?_,?_,?_,?_⟩
 · rw [e1]
   exact h.tab.upd hp h1 h2 (by omega) (by rw [h3];exact h.tab.mem p hp) h5 (fun h4=> by omega)
 · rw [e1,upd_length]
   exact h.n6
 · rw [e1,e6]
   exact h.tn.same h.tab.so hp h1 (by rw [h4])
 · rw [e1,e7]
   exact h.al.same h.tab.so hp h1 (by rw [h4])
 · rw [e3,e4]
   exact h.hr
 · rw [e4]
   exact h.h64
 · rw [e1,e4]
   exact h.hp.same h.tab.so hp h1 (by rw [h4])
 · rw [e1]
   exact hpo
theorem cnt_ge {l:List Proc} {q:Proc} (hq:q ∈ l) (n:Int) (e:Bool):fdn q n e≤cnt l n e:=by
 induction l with
 |nil=> cases hq
 |cons a l ih=>
  rw [cnt_cons]
  rcases List.mem_cons.1 hq with rfl|hq
  · have:=(cnt_range l n e).1;omega
  · have:=ih hq
    have:=(fdn_range a n e).1
    omega
theorem Inv.same (h:Inv D k) (e1:k'.p=k.p) (e3:k'.hs=k.hs) (e4:k'.h=k.h) (e5:k'.pipes=k.pipes) (e6:k'.t=k.t) (e7:k'.s=k.s):Inv D k':=by
 obtain ⟨a1,a2,a3,a4,a5,a6,a7,a8,a9,a10⟩:=h
 exact ⟨by rw [e1];exact a1,by rw [e1];exact a2,by rw [e1,e6];exact a3,by rw [e6];exact a4,by rw [e7];exact a5,by rw [e1,e7];exact a6,by rw [e3,e4];exact a7,by rw [e4];exact a8,by rw [e1,e4];exact a9,by rw [e1,e5];exact a10⟩
theorem extract_size_le (b:ByteArray) (i j:Nat):(b.extract i j).size≤b.size:=by
 rw [ByteArray.size_extract]
 omega
theorem pwrite_keeps (q:Pipe) (s:ByteArray) (h8:q.data.size≤8):(pwrite q s).1.rd=q.rd∧(pwrite q s).1.wr=q.wr∧(pwrite q s).1.data.size≤8:=by
 unfold pwrite
 split
 · exact ⟨rfl,rfl,h8⟩
 split
 · exact ⟨rfl,rfl,h8⟩
 split
 · exact ⟨rfl,rfl,h8⟩
 · refine ⟨rfl,rfl,?_⟩
   show (q.data ++ s.extract 0 (min (8 - q.data.size) s.size)).size≤8
   rw [ByteArray.size_append,ByteArray.size_extract]
   omega
theorem pread_keeps (q:Pipe) (n:Int) (h8:q.data.size≤8):(pread q n).1.rd=q.rd∧(pread q n).1.wr=q.wr∧(pread q n).1.data.size≤8:=by
 unfold pread
 split
 · exact ⟨rfl,rfl,h8⟩
 split
 · exact ⟨rfl,rfl,h8⟩
 split
 · exact ⟨rfl,rfl,h8⟩
 · exact ⟨rfl,rfl,Nat.le_trans (extract_size_le _ _ _) h8⟩
theorem isEnd_some {k:Kern} {p:Proc} {n:Int} (h:isEnd k p n=true):1≤(getFd p n.toNat).1∧k.pipes[((getFd p n.toNat).1 - 1).toNat]? =some (thePipe k p n):=by
 unfold isEnd at h
 simp only [Bool.not_eq_true',Bool.or_eq_false_iff,decide_eq_false_iff_not] at h
 refine ⟨by omega,?_⟩
 unfold thePipe
 rw [List.getElem?_eq_getElem (by omega)]
 rfl
theorem PO.setPipe {l:List Pipe} {ps:List Proc} (h:PO l ps) {j:Nat} {q q':Pipe} (hq:l[j]? =some q) (h1:q'.rd=q.rd) (h2:q'.wr=q.wr) (h3:q'.data.size≤8):PO (l.set j q') ps:=
 ⟨h.ok.set hq h1 h2 h3,by rw [List.length_set];exact h.n,by rw [List.length_set];exact h.out⟩
structure TriedOk (D:List Int) (k:Kern) (p:Proc) (r:Tried):Prop where
 inv:Inv D r.k
 me:∃ q ∈ r.k.p,q.pid=p.pid∧q.st=p.st
 oth:∀ q ∈ k.p,q.pid ≠ p.pid→q.st ≠ 4→q ∈ r.k.p
 v:W32 r.v
theorem Inv.triedOk (h:Inv D k) (hp:p ∈ k.p) (hst:p.st ≠ 4) (x:Call) (ha:W32 x.a) (hb:W32 x.b):TriedOk D k p (tried k p x):=by
 have stay:∀ (v e:Int),W32 v→TriedOk D k p ⟨k,v,e⟩:=fun v e hv=> ⟨h,⟨p,hp,rfl,rfl⟩,fun q hq _ _=> hq,hv⟩
 have z:=w32_0
 have chg:∀ (k':Kern) (p':Proc) (v e:Int),p'.pid=p.pid→p'.st=p.st→k'.p=put k.p p'→Inv D k'→W32 v→TriedOk D k p ⟨k',v,e⟩:=fun k' p' v e h1 h2 h3 h4 hv=> by
  have hu:k'.p=Kn.upd k.p p':=by rw [h3];exact put_upd h.tab.so hp h1.symm
  exact ⟨h4,⟨p',by show p' ∈ k'.p;rw [hu];exact upd_mem hp h1.symm,h1,h2⟩,fun q hq hne _=> by show q ∈ k'.p;rw [hu];exact upd_mem_ne hq (by omega),hv⟩
 unfold tried
 split
 · unfold wait
   cases hd:dead k.p p.pid with
   |none=>
    dsimp only
    split <;> exact stay _ _ z
   |some q=>
    dsimp only
    unfold dead at hd
    have hq:=List.mem_of_find?_eq_some hd
    have h4:q.st=4:=by
     have:=List.find?_some hd
     simp only [Bool.and_eq_true,beq_iff_eq] at this
     exact this.2
    have hne:p.pid ≠ q.pid:=fun he=> hst (by rw [h.tab.so.uniq hp hq he];exact h4)
    refine ⟨?_,⟨p,mem_remove.2 ⟨hp,hne⟩,rfl,rfl⟩,fun r hr _ h5=> mem_remove.2 ⟨hr,fun he=> h5 (by rw [h.tab.so.uniq hr hq he];exact h4)⟩,w32_mod _⟩
    refine ⟨h.tab.remove hq h4,Nat.le_trans (List.length_filter_le _ _) h.n6,h.tn.remove h.tab.so hq (by rw [h4];decide),h.tl,h.so,h.al.remove h.tab.so hq (by rw [h4];decide),h.hr,h.h64,h.hp.remove h.tab.so hq (by rw [h4];decide),?_⟩
    refine h.po.of (fun n e hn=> ?_)
    show _=cnt (remove k.p q.pid) n e
    rw [cnt_remove h.tab.so hq,(h.tab.fd q hq h4).fdn hn]
    omega
 split
 · exact stay _ _ (w32_mod _)
 split
 · exact stay _ _ (w32_mod _)
 split
 · exact ⟨h.same rfl rfl rfl rfl rfl rfl,⟨p,hp,rfl,rfl⟩,fun q hq _ _=> hq,z⟩
 split
 · unfold pipes
   split
   · exact stay _ _ z
   · next l n hm=>
     split
     · exact stay _ _ z
     · next a hfa=>
       split
       · exact stay _ _ z
       · next b hfb=>
         obtain ⟨g1,g2,g3,g4,g5⟩:=setFd_keeps p a n false
         obtain ⟨f1,f2,f3,f4,f5⟩:=setFd_keeps (setFd p a n false) b n true
         obtain ⟨m1,m2,m3,m4,m5⟩:=h.po.ok.make (fun n e=> (cnt_range _ n e).1) h.po.out hm
         have hpid:(setFd (setFd p a n false) b n true).pid=p.pid:=f1.trans g1
         refine chg _ _ _ _ hpid (f4.trans g4) rfl ?_ (w32_mod _)
         refine h.ends_ hp hst hpid (f2.trans g2) (f3.trans g3) (f4.trans g4) (f5 (g5 (h.tab.wd p hp))) rfl rfl rfl rfl rfl ?_
         have hc:∀ (i:Int) e,1≤i→cnt (Kn.upd k.p (setFd (setFd p a n false) b n true)) i e=cnt k.p i e + if i=(n:Int) then 1 else 0:=fun i e hi=> by
          rw [cnt_upd h.tab.so hp hpid.symm,fdn_setFd hfb _ _ _ _ hi,fdn_setFd hfa _ _ _ _ hi]
          cases e
          · by_cases hni:i=(n:Int)
            · rw [if_pos ⟨hni.symm,rfl⟩,if_neg (by simp),if_pos hni];omega
            · rw [if_neg (by simp;omega),if_neg (by simp),if_neg hni];omega
          · by_cases hni:i=(n:Int)
            · rw [if_neg (by simp),if_pos ⟨hni.symm,rfl⟩,if_pos hni];omega
            · rw [if_neg (by simp),if_neg (by simp;omega),if_neg hni];omega
         have h4:=h.po.n
         refine ⟨m1.of (fun i e hi=> (hc i e hi).symm),by show l.length≤4;omega,fun i e hi=> ?_⟩
         have hi:(l.length:Int)<i:=hi
         rw [hc i e (by omega),h.po.out i e (by omega),if_neg (by omega)]
         rfl
 split
 · unfold writes
   split
   · exact stay _ _ z
   · next hc=>
     split
     · exact stay _ _ z
     · dsimp only
       split
       · exact stay _ _ z
       · have he:isEnd k p x.a=true:=by cases hh:isEnd k p x.a with|true=> rfl|false=> exact absurd (.inl hh) hc
         obtain ⟨_,hq⟩:=isEnd_some he
         have h8:=(h.po.ok _ _ hq).2.2
         obtain ⟨w1,w2,w3⟩:=pwrite_keeps (thePipe k p x.a) (Sg.outS p.mem x.b x.c) h8
         exact ⟨⟨h.tab,h.n6,h.tn,h.tl,h.so,h.al,h.hr,h.h64,h.hp,h.po.setPipe hq w1 w2 w3⟩,⟨p,hp,rfl,rfl⟩,fun q hq _ _=> hq,w32_mod _⟩
 split
 · unfold reads
   split
   · exact stay _ _ z
   · next hc=>
     split
     · exact stay _ _ z
     · dsimp only
       split
       · exact stay _ _ z
       · have he:isEnd k p x.a=true:=by cases hh:isEnd k p x.a with|true=> rfl|false=> exact absurd (.inl hh) hc
         obtain ⟨_,hq⟩:=isEnd_some he
         have h8:=(h.po.ok _ _ hq).2.2
         obtain ⟨w1,w2,w3⟩:=pread_keeps (thePipe k p x.a) x.c h8
         refine chg _ ({p with mem:=Sg.inM p.mem x.b (pread (thePipe k p x.a) x.c).2.1}:Proc) _ _ rfl rfl rfl ?_ (w32_mod _)
         have hk:Like ({p with mem:=Sg.inM p.mem x.b (pread (thePipe k p x.a) x.c).2.1}:Proc) p:=⟨rfl,rfl,(inM_size hb.1).trans (h.tab.mem p hp),⟨(h.tab.wd p hp).rs,(h.tab.wd p hp).pc,(h.tab.wd p hp).wn,(h.tab.wd p hp).wa,(h.tab.wd p hp).wb,(h.tab.wd p hp).wc⟩,fun _ _ _=> rfl⟩
         have h2:Inv D {k with p:=put k.p ({p with mem:=Sg.inM p.mem x.b (pread (thePipe k p x.a) x.c).2.1}:Proc)}:=h.change hp hk hst rfl rfl rfl rfl rfl rfl rfl
         exact ⟨h2.tab,h2.n6,h2.tn,h2.tl,h2.so,h2.al,h2.hr,h2.h64,h2.hp,h2.po.setPipe hq w1 w2 w3⟩
 split
 · unfold closes
   split
   · exact stay _ _ z
   · next hc=>
     have he:isEnd k p x.a=true:=by cases hh:isEnd k p x.a with|true=> rfl|false=> exact absurd hh hc
     obtain ⟨g1,g2,g3,g4,g5⟩:=setFd_keeps p x.a.toNat 0 false
     refine chg _ _ _ _ g1 g4 rfl ?_ z
     refine h.ends_ hp hst g1 g2 g3 g4 (g5 (h.tab.wd p hp)) rfl rfl rfl rfl rfl ?_
     have hcn:∀ (i:Int) e,1≤i→cnt (Kn.upd k.p (setFd p x.a.toNat 0 false)) i e=cnt k.p i e + if (getFd p x.a.toNat).1=i∧(getFd p x.a.toNat).2=e then -1 else 0:=fun i e hi=> by
      rw [cnt_upd h.tab.so hp g1.symm,fdn_clear _ _ _ _ hi]
      split <;> omega
     refine ⟨(h.po.ok.count _ _ _).of (fun i e hi=> (hcn i e hi).symm),by show (pcount _ _ _ _).length≤4;rw [plen];exact h.po.n,fun i e hi=> ?_⟩
     have hi:((pcount k.pipes (getFd p x.a.toNat).1 (getFd p x.a.toNat).2 (-1)).length:Int)<i:=hi
     rw [plen] at hi
     have h0:=h.po.out i e hi
     rw [hcn i e (by omega),h0]
     have hle:(getFd p x.a.toNat).1≤k.pipes.length:=by
      unfold isEnd at he
      simp only [Bool.not_eq_true',Bool.or_eq_false_iff,decide_eq_false_iff_not] at he
      omega
     rw [if_neg (by omega)]
     rfl
 split
 · unfold sends
   split
   · exact stay _ _ z
   · split
     · exact stay _ _ z
     · split
       · exact stay _ _ z
       · exact ⟨h.same rfl rfl rfl rfl rfl rfl,⟨p,hp,rfl,rfl⟩,fun q hq _ _=> hq,z⟩
 split
 · unfold recvs
   split
   · split
     · exact stay _ _ z
     · next m _ _=>
       split
       · exact stay _ _ z
       · split
         · exact stay _ _ z
         · refine chg _ ({p with mem:=Sg.inM p.mem x.b m.body}:Proc) _ _ rfl rfl rfl ?_ (w32_mod _)
           have hk:Like ({p with mem:=Sg.inM p.mem x.b m.body}:Proc) p:=⟨rfl,rfl,(inM_size hb.1).trans (h.tab.mem p hp),⟨(h.tab.wd p hp).rs,(h.tab.wd p hp).pc,(h.tab.wd p hp).wn,(h.tab.wd p hp).wa,(h.tab.wd p hp).wb,(h.tab.wd p hp).wc⟩,fun _ _ _=> rfl⟩
           exact h.change hp hk hst rfl rfl rfl rfl rfl rfl rfl
   · exact stay _ _ z
 · exact stay _ _ z
end
end Kn
end Go.Proofs.YthgehdghihbiaaaGreatDoor
namespace Go.Proofs.YthgehdghihbiaaaGreatDoor
namespace Kn
def Life (k:Kern):Prop:=(k.gone=0∧k.p ≠ [])∨(k.gone ≠ 0∧k.p=[])
section
variable {D:List Int} {k k':Kern} {p p':Proc}
theorem Inv.ends1 (h:Inv [] k) (code why:Int):Inv [] (ends k 1 code why):=by
 have h0:hright k.hs []=true:=by
  have:=h.hr
  unfold hright at this ⊢
  rw [Bool.and_eq_true] at this ⊢
  exact ⟨rfl,this.2⟩
 unfold ends
 rw [if_pos rfl]
 exact ⟨TabOk.nil,Nat.zero_le _,Keys.nil _,⟨show (0:Int)≤0 by decide,show (0:Int)≤5 by decide⟩,List.Pairwise.nil,Keys.nil _,h0,fun s hs=> (nomatch hs),Keys.nil _,⟨fun i q hq=> by simp at hq,Nat.zero_le _,fun n e _=> rfl⟩⟩
structure EndsOk (k:Kern) (p:Proc) (k':Kern):Prop where
 inv:Inv [] k'
 gone:k'.gone=k.gone
 oth:∀ q ∈ k.p,q.pid ≠ p.pid→∃ r ∈ k'.p,r.pid=q.pid∧r.st=q.st
 ne:k'.p ≠ []
theorem Inv.ends2 (h:Inv [] k) (hp:p ∈ k.p) (hst:p.st ≠ 4) (hne:p.pid ≠ 1) (code why:Int):EndsOk k p (ends k p.pid code why):=by
 have hpos:=h.tab.pos p hp
 obtain ⟨ht,hno⟩:=h.tab.adopt hne hpos
 have hme:ado p.pid 1 p ∈ adopt k.p p.pid 1:=by rw [adopt_eq];exact List.mem_map_of_mem hp
 have hpar:(ado p.pid 1 p).par=p.par:=by
  unfold ado
  rw [if_neg]
  rcases h.tab.par p hp with g|g <;> omega
 have hpid:=ado_pid p.pid 1 p
 have hu:put (adopt k.p p.pid 1) (over p code)=Kn.upd (adopt k.p p.pid 1) (over p code):=put_upd ht.so hme hpid
 have hf:((find (adopt k.p p.pid 1) p.par).map (fun q=> q.st==4)).getD true=false:=by
  rcases h.tab.par p hp with g|⟨_,_,q,hq,g3,g4⟩
  · exact absurd g.1 hne
  · have hqm:ado p.pid 1 q ∈ adopt k.p p.pid 1:=by rw [adopt_eq];exact List.mem_map_of_mem hq
    have:=ht.so.find hqm
    rw [ado_pid,g3] at this
    rw [this]
    show ((ado p.pid 1 q).st==4)=false
    rw [ado_st]
    simp [g4]
 have he:ends k p.pid code why={k with pipes:=count4 k.pipes p (-1),h:=hdrop k.h p.pid,t:=tdrop k.t p.pid,s:=sdrop k.s p.pid,p:=Kn.upd (adopt k.p p.pid 1) (over p code)}:=by
  unfold ends
  rw [if_neg hne,h.tab.so.find hp]
  dsimp only [Option.getD_some]
  rw [hf,hu]
  rfl
 have hov:∀ n e,1≤n→fdn (over p code) n e=0:=fun n e hn=> (show noFd (over p code) from ⟨rfl,rfl,rfl,rfl,rfl,rfl,rfl,rfl⟩).fdn hn e
 have hcnt:∀ n e,1≤n→cnt (Kn.upd (adopt k.p p.pid 1) (over p code)) n e=cnt k.p n e + (-1) * fdn p n e:=fun n e hn=> by
  rw [cnt_upd ht.so hme (p:=over p code) hpid,hov n e hn,cnt_adopt,fdn_ado]
  omega
 rw [he]
 refine ⟨⟨?_,?_,?_,?_,?_,?_,?_,?_,?_,?_⟩,rfl,fun q hq hqp=> ?_,List.ne_nil_of_mem (upd_mem hme (p:=over p code) hpid)⟩
 · refine ht.upd (p':=over p code) hme hpid.symm hpar.symm ⟨show (1:Int)≤4 by decide,show (4:Int)≤4 by decide⟩ (h.tab.mem p hp) ?_ (fun _=> ⟨⟨rfl,rfl,rfl,rfl,rfl,rfl,rfl,rfl⟩,by rw [hpid];exact hne,fun q hq=> by rw [hpid];exact hno q hq⟩)
   have w:=h.tab.wd p hp
   exact ⟨w.rs,w.pc,w.wn,w.wa,w.wb,w.wc⟩
 · show (Kn.upd _ _).length≤6
   rw [upd_length,adopt_eq,List.length_map]
   exact h.n6
 · refine (h.tn.adopt p.pid 1).upd ht.so hme hpid.symm (tdrop_nodup h.tn.1 _) (fun i=> ?_)
   show i ∈ (tdrop k.t p.pid).l↔_∨(_∧(4:Int)=1)
   rw [tdrop_mem,hpid]
   simp
   exact And.comm
 · exact tdrop_left h.tl _
 · exact sdrop_sorted h.so _
 · have hal:=h.al
   rw [List.append_nil] at hal
   show Keys ((sdrop k.s p.pid).map (·.pid) ++ []) _ _
   rw [List.append_nil,sdrop_pid]
   refine (hal.adopt p.pid 1).upd ht.so hme hpid.symm (List.Pairwise.filter _ hal.1) (fun i=> ?_)
   show _↔_∨(_∧(4:Int)=3)
   rw [List.mem_filter,hpid]
   simp
   exact And.comm
 · exact hdrop_right h.hr _
 · exact fun s hs=> h.h64 s (List.mem_filter.1 hs).1
 · show Keys ((hdrop k.h p.pid).map (·.who)) _ _
   rw [hdrop_who]
   refine (h.hp.adopt p.pid 1).upd ht.so hme hpid.symm (List.Pairwise.filter _ h.hp.1) (fun i=> ?_)
   show _↔_∨(_∧(4:Int) ≠ 4)
   rw [List.mem_filter,hpid]
   simp
   exact And.comm
 · refine ⟨(h.po.ok.count4 p (-1)).of (fun n e hn=> (hcnt n e hn).symm),by show (count4 _ _ _).length≤4;rw [count4_len];exact h.po.n,fun n e hn=> ?_⟩
   have hn:((count4 k.pipes p (-1)).length:Int)<n:=hn
   rw [count4_len] at hn
   have h0:=h.po.out n e hn
   have h1:=cnt_ge hp n e
   have h2:=(fdn_range p n e).1
   show cnt (Kn.upd (adopt k.p p.pid 1) (over p code)) n e=0
   rw [hcnt n e (by omega)]
   omega
 · have hqm:ado p.pid 1 q ∈ adopt k.p p.pid 1:=by rw [adopt_eq];exact List.mem_map_of_mem hq
   exact ⟨ado p.pid 1 q,upd_mem_ne hqm (by rw [ado_pid];exact hqp),ado_pid _ _ _,ado_st _ _ _⟩
structure FreshOk (D:List Int) (k:Kern) (k':Kern):Prop where
 inv:Inv D k'
 gone:k'.gone=k.gone
 oth:∀ q ∈ k.p,q ∈ k'.p
 v:W32 (freshV k)
 ne:freshE k=0→k'.p ≠ []
theorem Inv.fresh (h:Inv D k) (hm:p.mem.size=64) (hw:PWord p) (hpar:(k.p=[]∧p.par=0)∨∃ q ∈ k.p,q.pid=p.par∧q.st ≠ 4) (hfd:∀ n e,(k.pipes.length:Int)<n→fdn p n e=0):FreshOk D k (Kn.fresh k p):=by
 have hv:W32 (freshV k):=by
  unfold freshV
  split
  · exact w32_0
  · split
    · exact w32_mod _
    · exact w32_0
 unfold Kn.fresh
 split
 · next h6=> exact ⟨h,rfl,fun q hq=> hq,hv,fun he=> by unfold freshE at he;rw [if_pos h6] at he;exact absurd he (by decide)⟩
 · next h6=>
   split
   · next h0=>
     obtain ⟨a,hperm,hri⟩:=htakeE_ok h0
     have hgt:=next_gt k.p
     have hpn:put k.p (born p (next k.p))=k.p ++ [born p (next k.p)]:=put_new hgt
     have hout:next k.p ∉ k.h.map (·.who):=fun hi=> by
      obtain ⟨q,hq,h1,_⟩:=(h.hp.2 _).1 hi
      have:=hgt q hq
      omega
     have hpw:((htakeE k.hs k.h 64 (next k.p)).1.map (·.who)).Perm (next k.p::k.h.map (·.who)):=hperm.map _
     have hcnt:∀ n e,cnt (put k.p (born p (next k.p))) n e=cnt k.p n e + 1 * fdn p n e:=fun n e=> by
      rw [hpn,cnt_app,cnt_cons,cnt_nil]
      show cnt k.p n e + (fdn p n e + 0)=_
      omega
     refine ⟨⟨?_,?_,?_,tadd_left h.tl _,h.so,?_,hri,?_,?_,?_⟩,rfl,fun q hq=> ?_,hv,fun _=> ?_⟩
     · show TabOk (put k.p (born p (next k.p)))
       rw [hpn]
       refine h.tab.app (p:=born p (next k.p)) hgt rfl hm ⟨hw.rs,hw.pc,w32_0,w32_0,w32_0,w32_0⟩ ?_
       rcases hpar with ⟨g1,g2⟩|g
       · exact .inl ⟨by show next k.p=1;rw [g1];rfl,g2⟩
       · exact .inr g
     · show (put k.p (born p (next k.p))).length≤6
       rw [hpn,List.length_append,List.length_singleton]
       omega
     · show Keys (tadd k.t (next k.p)).l (put k.p (born p (next k.p))) _
       rw [hpn]
       refine h.tn.more (p:=born p (next k.p)) hgt (tadd_nodup h.tn.1 _) (fun i=> ?_)
       rw [tadd_mem]
       show _↔_∨(i=next k.p∧(1:Int)=1)
       simp
     · show Keys _ (put k.p (born p (next k.p))) _
       rw [hpn]
       refine h.al.more (p:=born p (next k.p)) hgt h.al.1 (fun i=> ?_)
       show _↔_∨(_∧(1:Int)=3)
       simp
     · intro s hs
       rcases List.mem_cons.1 (hperm.mem_iff.1 hs) with rfl|hs
       · rfl
       · exact h.h64 s hs
     · show Keys _ (put k.p (born p (next k.p))) _
       rw [hpn]
       refine h.hp.more (p:=born p (next k.p)) hgt (hpw.nodup_iff.2 (List.nodup_cons.2 ⟨hout,h.hp.1⟩)) (fun i=> ?_)
       rw [hpw.mem_iff,List.mem_cons]
       show _↔_∨(i=next k.p∧(1:Int) ≠ 4)
       rw [Or.comm]
       simp
     · refine ⟨(h.po.ok.count4 p 1).of (fun n e hn=> (hcnt n e).symm),by show (count4 _ _ _).length≤4;rw [count4_len];exact h.po.n,fun n e hn=> ?_⟩
       have hn:((count4 k.pipes p 1).length:Int)<n:=hn
       rw [count4_len] at hn
       show cnt (put k.p (born p (next k.p))) n e=0
       rw [hcnt,h.po.out n e hn,hfd n e hn]
       rfl
     · show q ∈ put k.p (born p (next k.p))
       rw [hpn]
       exact List.mem_append_left _ hq
     · show put k.p (born p (next k.p)) ≠ []
       rw [hpn]
       simp
   · next hc=> exact ⟨h,rfl,fun q hq=> hq,hv,fun he=> by unfold freshE at he;rw [if_neg h6] at he;exact absurd he hc⟩
theorem makeM_size {n:Int} {s:ByteArray} (h:Sg.makeE n s=0):((Sg.makeM n s).size:Int)=n:=by
 unfold Sg.makeE at h
 unfold Sg.makeM
 split at h
 · exact absurd h (by decide)
 · split at h
   · exact absurd h (by decide)
   · rw [if_pos (by omega)]
     have e:(ByteArray.mk (s.data.toList ++ List.replicate (n - s.size).toNat 0).toArray).size=(s.data.toList ++ List.replicate (n - s.size).toNat 0).length:=List.size_toArray
     have e2:s.data.toList.length=s.size:=Array.length_toList
     rw [e,List.length_append,List.length_replicate,e2]
     omega
theorem imageM_size {n:Int} (h:imageE k n=0):(imageM k n).size=64:=by
 unfold imageE at h
 unfold imageM
 split at h
 · have:=makeM_size h
   omega
 · exact absurd h (by decide)
theorem zero_word:PWord Proc.zero:=⟨⟨rfl,fun x hx=> by simp [Proc.zero] at hx;omega⟩,w32_0,w32_0,w32_0,w32_0,w32_0⟩
theorem zero_fd {p:Proc} (h:noFd p) (n:Int) (e:Bool) (hn:1≤n):fdn p n e=0:=h.fdn hn e
structure AskOk (k:Kern) (p:Proc) (k':Kern):Prop where
 inv:Inv [] k'
 life:(k'.gone=k.gone∧k'.p ≠ [])∨(k'.gone ≠ 0∧k'.p=[])
theorem Inv.asked (h:Inv [] k) (hp:p ∈ k.p) (hk:Like p' p) (h1:p.st=1) {v e:Int} (hv:W32 v) (x:Call):AskOk k p (Kn.answer k p' x v e):=
 ⟨h.answer hp hk h1 hv x,.inl ⟨rfl,by show put k.p (back p' v e) ≠ [];rw [put_upd (p:=back p' v e) h.tab.so hp (show p.pid=p'.pid from hk.pid.symm)];exact List.ne_nil_of_mem (upd_mem (p:=back p' v e) hp (show p.pid=p'.pid from hk.pid.symm))⟩⟩
theorem Inv.want (h:Inv D k) (n:Int):Inv D {k with want:=n}:=h.same rfl rfl rfl rfl rfl rfl
theorem AskOk.t {t:Turn} (h:AskOk k p k') (ht:t.l.Perm k'.t.l) (hl:0≤t.left∧t.left≤5):AskOk k p {k' with t:=t}:=
 ⟨⟨h.inv.tab,h.inv.n6,h.inv.tn.perm ht,hl,h.inv.so,h.inv.al,h.inv.hr,h.inv.h64,h.inv.hp,h.inv.po⟩,h.life⟩
theorem tried_ways (k:Kern) (p:Proc) (x:Call) (C:Tried→Prop) (h0:∀ v e,C ⟨k,v,e⟩) (hw:∀ i v e,C ⟨{k with p:=remove k.p i},v,e⟩) (hc:∀ s v e,C ⟨{k with cons:=s},v,e⟩) (hq:∀ pi v e,C ⟨{k with pipes:=pi},v,e⟩) (hp:∀ pi p' v e,p'.pid=p.pid→C ⟨{k with pipes:=pi,p:=put k.p p'},v,e⟩)
 (hs:∀ l v e,C ⟨{k with sent:=l},v,e⟩) (hr:∀ b p' v e,p'.pid=p.pid→C ⟨{k with box:=b,p:=put k.p p'},v,e⟩):C (tried k p x):=by
 have s:=fun p a d e=> (setFd_keeps p a d e).1
 unfold tried
 split
 · unfold wait
   split
   · exact hw _ _ _
   · split <;> exact h0 _ _
 split
 · exact h0 _ _
 split
 · exact h0 _ _
 split
 · exact hc _ _ _
 split
 · unfold pipes
   split
   · exact h0 _ _
   · split
     · exact h0 _ _
     · split
       · exact h0 _ _
       · exact hp _ _ _ _ ((s _ _ _ _).trans (s _ _ _ _))
 split
 · unfold writes
   split
   · exact h0 _ _
   · split
     · exact h0 _ _
     · dsimp only
       split
       · exact h0 _ _
       · exact hq _ _ _
 split
 · unfold reads
   split
   · exact h0 _ _
   · split
     · exact h0 _ _
     · dsimp only
       split
       · exact h0 _ _
       · exact hp _ _ _ _ rfl
 split
 · unfold closes
   split
   · exact h0 _ _
   · exact hp _ _ _ _ (s _ _ _ _)
 split
 · unfold sends
   split
   · exact h0 _ _
   · split
     · exact h0 _ _
     · split
       · exact h0 _ _
       · exact hs _ _ _
 split
 · unfold recvs
   split
   · split
     · exact h0 _ _
     · split
       · exact h0 _ _
       · split
         · exact h0 _ _
         · exact hr _ _ _ _ rfl
   · exact h0 _ _
 · exact h0 _ _
theorem tried_frame (k:Kern) (p:Proc) (x:Call):(tried k p x).k.gone=k.gone∧(tried k p x).k.t=k.t∧(tried k p x).k.s=k.s∧(tried k p x).k.now=k.now∧(tried k p x).k.images=k.images∧(tried k p x).k.outs=k.outs∧(tried k p x).k.ins_=k.ins_∧(tried k p x).k.hs=k.hs∧(tried k p x).k.want=k.want:=
 tried_ways k p x (fun r=> r.k.gone=k.gone∧r.k.t=k.t∧r.k.s=k.s∧r.k.now=k.now∧r.k.images=k.images∧r.k.outs=k.outs∧r.k.ins_=k.ins_∧r.k.hs=k.hs∧r.k.want=k.want)
  (fun _ _=> ⟨rfl,rfl,rfl,rfl,rfl,rfl,rfl,rfl,rfl⟩) (fun _ _ _=> ⟨rfl,rfl,rfl,rfl,rfl,rfl,rfl,rfl,rfl⟩) (fun _ _ _=> ⟨rfl,rfl,rfl,rfl,rfl,rfl,rfl,rfl,rfl⟩) (fun _ _ _=> ⟨rfl,rfl,rfl,rfl,rfl,rfl,rfl,rfl,rfl⟩) (fun _ _ _ _ _=> ⟨rfl,rfl,rfl,rfl,rfl,rfl,rfl,rfl,rfl⟩)
  (fun _ _ _=> ⟨rfl,rfl,rfl,rfl,rfl,rfl,rfl,rfl,rfl⟩) (fun _ _ _ _ _=> ⟨rfl,rfl,rfl,rfl,rfl,rfl,rfl,rfl,rfl⟩)
theorem tried_gone (k:Kern) (p:Proc) (x:Call):(tried k p x).k.gone=k.gone:=(tried_frame k p x).1
theorem find_st {l:List Proc} (hs:Sorted l) {q:Proc} (hq:q ∈ l) {pid:Int} (he:q.pid=pid):find l pid=some q:=by rw [← he];exact hs.find hq
theorem tried_again {k:Kern} {p:Proc} {x:Call} (h:(tried k p x).e=6) (hn:x.n ≠ 16):(tried k p x).k=k:=by
 have h6:∀ {e:Int} {P:Prop},e=6→e ≠ 6→P:=fun a b=> absurd a b
 unfold tried at h ⊢
 split
 · rename_i hc
   rw [if_pos hc] at h
   unfold wait at h ⊢
   split
   · rename_i q hd
     rw [hd] at h
     exact absurd (show (0:Int)=6 from h) (by decide)
   · split <;> rfl
 rename_i hc;rw [if_neg hc] at h
 split
 · rfl
 rename_i hc;rw [if_neg hc] at h
 split
 · rfl
 rename_i hc;rw [if_neg hc] at h
 split
 · rename_i hc;rw [if_pos hc] at h;exact absurd (show (0:Int)=6 from h) (by decide)
 rename_i hc;rw [if_neg hc] at h
 split
 · rename_i hc
   rw [if_pos hc] at h
   unfold pipes at h ⊢
   split
   · rfl
   · rename_i l n hm
     rw [hm] at h
     dsimp only at h
     split
     · rfl
     · rename_i a hfa
       rw [hfa] at h
       dsimp only at h
       split
       · rfl
       · rename_i b hfb
         rw [hfb] at h
         exact absurd (show (0:Int)=6 from h) (by decide)
 rename_i hc;rw [if_neg hc] at h
 split
 · rename_i hc
   rw [if_pos hc] at h
   unfold writes at h ⊢
   split
   · rfl
   · rename_i c1;rw [if_neg c1] at h
     split
     · rfl
     · rename_i c2;rw [if_neg c2] at h
       dsimp only at h ⊢
       split
       · rfl
       · rename_i c3;rw [if_neg c3] at h
         exact absurd (show (0:Int)=6 from h) (by decide)
 rename_i hc;rw [if_neg hc] at h
 split
 · rename_i hc
   rw [if_pos hc] at h
   unfold reads at h ⊢
   split
   · rfl
   · rename_i c1;rw [if_neg c1] at h
     split
     · rfl
     · rename_i c2;rw [if_neg c2] at h
       dsimp only at h ⊢
       split
       · rfl
       · rename_i c3;rw [if_neg c3] at h
         exact absurd (show (0:Int)=6 from h) (by decide)
 rename_i hc;rw [if_neg hc] at h
 split
 · rename_i hc
   rw [if_pos hc] at h
   unfold closes at h ⊢
   split
   · rfl
   · rename_i c1;rw [if_neg c1] at h
     exact absurd (show (0:Int)=6 from h) (by decide)
 rename_i hc;rw [if_neg hc] at h
 split
 · rename_i hc
   rw [if_pos hc] at h
   unfold sends at h ⊢
   split
   · rfl
   · rename_i c hcc
     rw [hcc] at h
     dsimp only at h
     split
     · rfl
     · rename_i c2;rw [if_neg c2] at h
       split
       · rfl
       · rename_i c3;rw [if_neg c3] at h
         exact absurd (show (0:Int)=6 from h) (by decide)
 rfl
theorem triesB_no {pid:Int} {x:Call} (h:triesB k pid x=false):tries k pid x=k:=by
 unfold tries
 dsimp only
 rw [if_neg (by rw [h];decide)]
 unfold triesB at h
 simp only [Bool.not_eq_false',Bool.and_eq_true,beq_iff_eq,Bool.not_eq_true',beq_eq_false_iff_ne] at h
 exact tried_again h.1 h.2
theorem triesB_yes {pid:Int} {x:Call} (h:triesB k pid x=true) {p q:Proc} (hp:find k.p pid=some p) (hq:find (tried k p x).k.p pid=some q):tries k pid x=Kn.answer (tried k p x).k q x (tried k p x).v (tried k p x).e:=by
 unfold tries
 rw [hp]
 dsimp only [Option.getD_some]
 rw [if_pos h,hq]
 rfl
structure CWord (x:Call):Prop where
 n:W32 x.n
 a:W32 x.a
 b:W32 x.b
 c:W32 x.c
theorem Inv.asks (h:Inv [] k) (hp:p ∈ k.p) (h1:p.st=1) {x:Call} (hx:CWord x):AskOk k p (Kn.asks k p x):=by
 have hl:=h.like hp
 have z:=w32_0
 have hlive:∃ q ∈ k.p,q.pid=p.pid∧q.st ≠ 4:=⟨p,hp,rfl,by omega⟩
 have hwd:=h.tab.wd p hp
 have hmem:=h.tab.mem p hp
 have hfd:∀ n e,(k.pipes.length:Int)<n→fdn p n e=0:=fun n e hn=> by
  have:=h.po.out n e hn
  have:=cnt_ge hp n e
  have:=(fdn_range p n e).1
  omega
 unfold Kn.asks
 by_cases c1:x.n=1
 · rw [if_pos c1]
   by_cases hp1:p.pid=1
   · rw [hp1]
     exact ⟨h.ends1 _ _,.inr ⟨by unfold ends;rw [if_pos rfl];show (1:Int) + 0 ≠ 0;decide,by unfold ends;rw [if_pos rfl]⟩⟩
   · have:=h.ends2 hp (by omega) hp1 (x.a % 256) 0
     exact ⟨this.inv,.inl ⟨this.gone,this.ne⟩⟩
 rw [if_neg c1]
 by_cases c7:x.n=7
 · rw [if_pos c7]
   exact (h.asked hp hl h1 z x).t (tyield_perm _) (tyield_left h.tl)
 rw [if_neg c7]
 by_cases c8:x.n=8
 · rw [if_pos c8]
   split
   · refine ⟨h.stops3 hp h1 x hx.n hx.a hx.b hx.c _,.inl ⟨rfl,?_⟩⟩
     show put k.p ({p with st:=3,wn:=x.n,wa:=x.a,wb:=x.b,wc:=x.c}:Proc) ≠ []
     have e:put k.p ({p with st:=3,wn:=x.n,wa:=x.a,wb:=x.b,wc:=x.c}:Proc)=Kn.upd k.p ({p with st:=3,wn:=x.n,wa:=x.a,wb:=x.b,wc:=x.c}:Proc):=put_upd h.tab.so hp rfl
     rw [e]
     exact List.ne_nil_of_mem (upd_mem hp rfl)
   · exact h.asked hp hl h1 z x
 rw [if_neg c8]
 by_cases c20:x.n=20
 · rw [if_pos c20]
   split
   · exact h.asked hp hl h1 z x
   · have:=(h.want (3 + x.a)).asked (k:={k with want:=3 + x.a}) hp hl h1 (e:=0) z x
     exact ⟨this.inv,this.life⟩
 rw [if_neg c20]
 by_cases c19:x.n=19
 · rw [if_pos c19]
   have:=(h.want (k.want + 1 + 1)).asked (k:={k with want:=k.want + 1 + 1}) hp hl h1 (e:=0) z x
   exact ⟨this.inv,this.life⟩
 rw [if_neg c19]
 by_cases c18:x.n=18
 · rw [if_pos c18]
   have:=(h.want (k.want + 1)).asked (k:={k with want:=k.want + 1}) hp hl h1 (e:=0) z x
   exact ⟨this.inv,this.life⟩
 rw [if_neg c18]
 by_cases c5:x.n=5
 · rw [if_pos c5]
   unfold kills
   split
   · exact h.asked hp hl h1 z x
   · next hna=>
     split
     · exact h.asked hp hl h1 z x
     · next hv=>
       unfold victim at hv
       cases hq:find k.p x.a with
       |none=> rw [hq] at hv;exact absurd rfl hv
       |some q=>
        rw [hq] at hv
        obtain ⟨hqm,hqp⟩:=find_mem hq
        have h4:q.st ≠ 4:=fun h4=> hv (by show (!(q.st==4))=false;simp [h4])
        have hE:=h.ends2 hqm h4 (by omega) 137 0
        rw [hqp] at hE
        dsimp only
        split
        · exact ⟨hE.inv,.inl ⟨hE.gone,hE.ne⟩⟩
        · next hxp=>
          obtain ⟨r,hr,hr1,hr2⟩:=hE.oth p hp (by omega)
          rw [find_st hE.inv.tab.so hr hr1]
          have:=hE.inv.asked hr (hE.inv.like hr) (by omega) (e:=0) z x
          refine ⟨this.inv,?_⟩
          rcases this.life with g|g
          · exact .inl ⟨g.1.trans hE.gone,g.2⟩
          · exact .inr g
 rw [if_neg c5]
 by_cases c3:x.n=3
 · rw [if_pos c3]
   have hF:FreshOk [] k (Kn.fresh k (forked p)):=h.fresh (p:=forked p) hmem ⟨Words.set0 hwd.rs z,hwd.pc,hwd.wn,hwd.wa,hwd.wb,hwd.wc⟩ (.inr hlive) hfd
   have:=hF.inv.asked (hF.oth p hp) (hF.inv.like (hF.oth p hp)) h1 (e:=freshE k) hF.v x
   refine ⟨this.inv,?_⟩
   rcases this.life with g|g
   · exact .inl ⟨g.1.trans hF.gone,g.2⟩
   · exact .inr g
 rw [if_neg c3]
 by_cases c2:x.n=2
 · rw [if_pos c2]
   split
   · next hi=>
     have hF:FreshOk [] k (Kn.fresh k (spawned p (imageM k x.a))):=h.fresh (p:=spawned p (imageM k x.a)) (imageM_size hi) ⟨zero_word.rs,z,z,z,z,z⟩ (.inr hlive) (fun n e hn=> zero_fd ⟨rfl,rfl,rfl,rfl,rfl,rfl,rfl,rfl⟩ n e (by omega))
     have:=hF.inv.asked (hF.oth p hp) (hF.inv.like (hF.oth p hp)) h1 (e:=freshE k) hF.v x
     refine ⟨this.inv,?_⟩
     rcases this.life with g|g
     · exact .inl ⟨g.1.trans hF.gone,g.2⟩
     · exact .inr g
   · exact h.asked hp hl h1 z x
 rw [if_neg c2]
 by_cases c17:x.n=17
 · rw [if_pos c17]
   split
   · next hi=> exact h.asked hp (p':=execd p (imageM k x.a)) ⟨rfl,rfl,imageM_size hi,⟨zero_word.rs,z,hwd.wn,hwd.wa,hwd.wb,hwd.wc⟩,fun _ _ _=> rfl⟩ h1 z x
   · exact h.asked hp hl h1 z x
 rw [if_neg c17]
 have hT:=h.triedOk hp (by omega) x hx.a hx.b
 by_cases cT:triesB k p.pid x=true
 · rw [if_pos cT]
   obtain ⟨q,hq,hq1,hq2⟩:=hT.me
   rw [triesB_yes cT (find_st h.tab.so hp rfl) (find_st hT.inv.tab.so hq hq1)]
   have:=hT.inv.asked hq (hT.inv.like hq) (by omega) (e:=(tried k p x).e) hT.v x
   refine ⟨this.inv,?_⟩
   rcases this.life with g|g
   · refine .inl ⟨g.1.trans ?_,g.2⟩
     exact tried_gone k p x
   · exact .inr g
 · rw [if_neg cT]
   rw [triesB_no (by simpa using cT)]
   refine ⟨h.stops2 hp h1 x hx.n hx.a hx.b hx.c,.inl ⟨rfl,?_⟩⟩
   show put k.p ({p with st:=2,wn:=x.n,wa:=x.a,wb:=x.b,wc:=x.c}:Proc) ≠ []
   have e:put k.p ({p with st:=2,wn:=x.n,wa:=x.a,wb:=x.b,wc:=x.c}:Proc)=Kn.upd k.p ({p with st:=2,wn:=x.n,wa:=x.a,wb:=x.b,wc:=x.c}:Proc):=put_upd h.tab.so hp rfl
   rw [e]
   exact List.ne_nil_of_mem (upd_mem hp rfl)
end
end Kn
end Go.Proofs.YthgehdghihbiaaaGreatDoor
namespace Go.Proofs.YthgehdghihbiaaaGreatDoor
namespace Kn
structure Told (a:Nat) (k k':Kern):Prop where
 tr:∃ l,k'.trace=k.trace ++ l∧l.length≤a∧(∀ e ∈ l,e.at_=k.now∧1≤e.pid)∧k'.sent.length≤k.sent.length + l.length
 co:∃ s,k'.cons=k.cons ++ s∧s.size≤a
 now:k'.now=k.now
 im:k'.images=k.images
 ou:k'.outs=k.outs
 ins_:k'.ins_=k.ins_
 hs:k'.hs=k.hs
 bl:k'.box.length=k.box.length
 box:∀ (i:Nat) (b':Box),k'.box[i]? =some b'→∃ (b:Box) (n:Nat),k.box[i]? =some b∧b'.l=b.l.drop n∧b'.lost=b.lost
 pid:∀ B,0≤B→(∀ q ∈ k.p,q.pid≤B)→∀ q ∈ k'.p,q.pid≤B + a
theorem ba_app_empty (s:ByteArray):s ++ (⟨#[]⟩:ByteArray)=s:=ByteArray.append_empty
theorem ba_app_assoc (a b c:ByteArray):a ++ b ++ c=a ++ (b ++ c):=ByteArray.append_assoc
theorem Told.refl (k:Kern):Told 0 k k:=⟨⟨[],(List.append_nil _).symm,Nat.le_refl _,fun e h=> (nomatch h),by simp⟩,⟨⟨#[]⟩,(ba_app_empty _).symm,Nat.le_refl _⟩,rfl,rfl,rfl,rfl,rfl,rfl,fun i b h=> ⟨b,0,h,rfl,rfl⟩,fun B _ h q hq=> by have:=h q hq;omega⟩
theorem Told.mono {a b:Nat} {k k':Kern} (h:Told a k k') (hab:a≤b):Told b k k':=by
 obtain ⟨⟨l,l1,l2,l3,l4⟩,⟨s,s1,s2⟩,h3,h4,h5,h6,h7,h8,h9,h10⟩:=h
 exact ⟨⟨l,l1,by omega,l3,l4⟩,⟨s,s1,by omega⟩,h3,h4,h5,h6,h7,h8,h9,fun B hB hq q hq'=> by have:=h10 B hB hq q hq';omega⟩
theorem Told.trans {a b:Nat} {k k1 k2:Kern} (h:Told a k k1) (g:Told b k1 k2):Told (a + b) k k2:=by
 obtain ⟨⟨l,l1,l2,l3,l4⟩,⟨s,s1,s2⟩,h3,h4,h5,h6,h7,h8,h9,h10⟩:=h
 obtain ⟨⟨m,m1,m2,m3,m4⟩,⟨r,r1,r2⟩,g3,g4,g5,g6,g7,g8,g9,g10⟩:=g
 refine ⟨⟨l ++ m,by rw [m1,l1,List.append_assoc],by rw [List.length_append];omega,fun e he=> ?_,by rw [List.length_append];omega⟩,⟨s ++ r,by rw [r1,s1,ba_app_assoc],by rw [ByteArray.size_append];omega⟩,g3.trans h3,g4.trans h4,g5.trans h5,g6.trans h6,g7.trans h7,g8.trans h8,fun i c hc=> ?_,fun B hB hq q hq'=> ?_⟩
 · rcases List.mem_append.1 he with he|he
   · exact l3 e he
   · have:=m3 e he
     rw [h3] at this
     exact this
 · obtain ⟨x,n,x1,x2,x3⟩:=g9 i c hc
   obtain ⟨y,m,y1,y2,y3⟩:=h9 i x x1
   exact ⟨y,m + n,y1,by rw [x2,y2,List.drop_drop],x3.trans y3⟩
 · have:=g10 (B + a) (by omega) (h10 B hB hq) q hq'
   omega
theorem pid_upd {l:List Proc} {p:Proc} {B:Int} (h:∀ q ∈ l,q.pid≤B) (hp:∃ q ∈ l,q.pid=p.pid):∀ q ∈ Kn.upd l p,q.pid≤B:=fun q hq=> by
 obtain ⟨r,hr,he⟩:=hp
 rcases mem_upd hq with rfl|⟨hq,_⟩
 · have:=h r hr;omega
 · exact h q hq
section
variable {D:List Int} {k k':Kern} {p p':Proc}
theorem Told.rows (e1:k'.trace=k.trace) (e2:k'.sent=k.sent) (e3:k'.cons=k.cons) (e4:k'.now=k.now) (e5:k'.images=k.images) (e6:k'.outs=k.outs) (e7:k'.ins_=k.ins_) (e8:k'.hs=k.hs) (e9:k'.box=k.box)
 (hp:∀ B,0≤B→(∀ q ∈ k.p,q.pid≤B)→∀ q ∈ k'.p,q.pid≤B):Told 0 k k':=
 ⟨⟨[],by rw [e1,List.append_nil],Nat.le_refl _,fun e h=> (nomatch h),by rw [e2];simp⟩,⟨⟨#[]⟩,by rw [e3,ba_app_empty],Nat.le_refl _⟩,e4,e5,e6,e7,e8,by rw [e9],fun i b h=> ⟨b,0,by rw [← e9];exact h,rfl,rfl⟩,fun B hB h q hq=> by have:=hp B hB h q hq;omega⟩
theorem Inv.answer_told (h:Inv D k) (hp:p ∈ k.p) (he:p'.pid=p.pid) (x:Call) (v e:Int):Told 1 k (Kn.answer k p' x v e):=by
 refine ⟨⟨[⟨p'.pid,x.n,cval e v,k.now⟩],rfl,Nat.le_refl _,fun e he'=> ?_,Nat.le_succ _⟩,⟨⟨#[]⟩,(ba_app_empty _).symm,Nat.zero_le _⟩,rfl,rfl,rfl,rfl,rfl,rfl,fun i b h=> ⟨b,0,h,rfl,rfl⟩,fun B hB hq q hq'=> ?_⟩
 · rw [List.mem_singleton] at he'
   subst he'
   exact ⟨rfl,by show 1≤p'.pid;rw [he];exact h.tab.pos p hp⟩
 · have hu:put k.p (back p' v e)=Kn.upd k.p (back p' v e):=put_upd h.tab.so hp (show p.pid=p'.pid from he.symm)
   have hq':q ∈ put k.p (back p' v e):=hq'
   rw [hu] at hq'
   have:=pid_upd (p:=back p' v e) hq ⟨p,hp,(show p.pid=p'.pid from he.symm)⟩ q hq'
   omega
theorem Told.t {a:Nat} (h:Told a k k') (t:Turn):Told a k {k' with t:=t}:=⟨h.tr,h.co,h.now,h.im,h.ou,h.ins_,h.hs,h.bl,h.box,h.pid⟩
structure TriedTold (k:Kern) (r:Tried):Prop where
 tr:r.k.trace=k.trace
 co:∃ s,r.k.cons=k.cons ++ s∧s.size≤1
 se:r.k.sent.length≤k.sent.length + 1
 bl:r.k.box.length=k.box.length
 box:∀ (i:Nat) (b':Box),r.k.box[i]? =some b'→∃ (b:Box) (n:Nat),k.box[i]? =some b∧b'.l=b.l.drop n∧b'.lost=b.lost
 h:r.k.h=k.h
theorem box_set {l:List Box} {j:Nat} {b b':Box} (hb:l[j]? =some b) {n:Nat} (h1:b'.l=b.l.drop n) (h2:b'.lost=b.lost):∀ (i:Nat) (c:Box),(l.set j b')[i]? =some c→∃ (b:Box) (n:Nat),l[i]? =some b∧c.l=b.l.drop n∧c.lost=b.lost:=fun i c hc=> by
 rw [List.getElem?_set] at hc
 split at hc
 · next he=>
   subst he
   split at hc
   · injection hc with hc
     subst hc
     exact ⟨b,n,hb,h1,h2⟩
   · cases hc
 · exact ⟨c,0,hc,rfl,rfl⟩
theorem tried_told (k:Kern) (p:Proc) (x:Call):TriedTold k (tried k p x):=by
 have nul:∃ s,k.cons=k.cons ++ s∧s.size≤1:=⟨⟨#[]⟩,(ba_app_empty _).symm,Nat.zero_le _⟩
 have triv:∀ v e,TriedTold k ⟨k,v,e⟩:=fun v e=> ⟨rfl,nul,Nat.le_succ _,rfl,fun i b h=> ⟨b,0,h,rfl,rfl⟩,rfl⟩
 have rows:∀ (pp:List Proc) (pi:List Pipe) v e,TriedTold k ⟨{k with p:=pp,pipes:=pi},v,e⟩:=fun pp pi v e=> ⟨rfl,nul,Nat.le_succ _,rfl,fun i b h=> ⟨b,0,h,rfl,rfl⟩,rfl⟩
 unfold tried
 split
 · unfold wait
   split
   · exact rows _ _ _ _
   · split <;> exact triv _ _
 split
 · exact triv _ _
 split
 · exact triv _ _
 split
 · exact ⟨rfl,⟨_,rfl,Nat.le_refl _⟩,Nat.le_succ _,rfl,fun i b h=> ⟨b,0,h,rfl,rfl⟩,rfl⟩
 split
 · unfold pipes
   repeat' split
   all_goals first|exact triv _ _|exact rows _ _ _ _
 split
 · unfold writes
   dsimp only
   repeat' split
   all_goals first|exact triv _ _|exact rows _ _ _ _
 split
 · unfold reads
   dsimp only
   repeat' split
   all_goals first|exact triv _ _|exact rows _ _ _ _
 split
 · unfold closes
   split
   · exact triv _ _
   · exact rows _ _ _ _
 split
 · unfold sends
   split
   · exact triv _ _
   · split
     · exact triv _ _
     · split
       · exact triv _ _
       · exact ⟨rfl,nul,by show (k.sent ++ [_]).length≤_;rw [List.length_append,List.length_singleton];omega,rfl,fun i b h=> ⟨b,0,h,rfl,rfl⟩,rfl⟩
 split
 · unfold recvs
   split
   · next c b hc hb=>
     split
     · exact triv _ _
     · next m r hm=>
       split
       · exact triv _ _
       · split
         · exact triv _ _
         · refine ⟨rfl,nul,Nat.le_succ _,List.length_set,?_,rfl⟩
           show ∀ (i:Nat) (b':Box),(k.box.set x.a.toNat (btake c b))[i]? =some b'→_
           unfold btake
           split
           · exact box_set (n:=0) hb rfl rfl
           · exact box_set (n:=1) hb rfl rfl
   · exact triv _ _
 · exact triv _ _
theorem tried_p (k:Kern) (p:Proc) (x:Call):(tried k p x).k.p=k.p∨(∃ i,(tried k p x).k.p=remove k.p i)∨∃ p',(tried k p x).k.p=put k.p p'∧p'.pid=p.pid:=
 tried_ways k p x (fun r=> r.k.p=k.p∨(∃ i,r.k.p=remove k.p i)∨∃ p',r.k.p=put k.p p'∧p'.pid=p.pid)
  (fun _ _=> .inl rfl) (fun i _ _=> .inr (.inl ⟨i,rfl⟩)) (fun _ _ _=> .inl rfl) (fun _ _ _=> .inl rfl) (fun _ p' _ _ h=> .inr (.inr ⟨p',rfl,h⟩)) (fun _ _ _=> .inl rfl) (fun _ p' _ _ h=> .inr (.inr ⟨p',rfl,h⟩))
theorem tried_pid (h:Inv D k) (hp:p ∈ k.p) (x:Call) {B:Int} (hB:∀ q ∈ k.p,q.pid≤B):∀ q ∈ (tried k p x).k.p,q.pid≤B:=by
 rcases tried_p k p x with g|⟨i,g⟩|⟨p',g,g2⟩
 · rw [g];exact hB
 · rw [g];exact fun q hq=> hB q (mem_remove.1 hq).1
 · rw [g,put_upd h.tab.so hp g2.symm];exact pid_upd hB ⟨p,hp,g2.symm⟩
theorem Inv.tries_told (h:Inv D k) (hp:p ∈ k.p) (hst:p.st ≠ 4) (x:Call) (ha:W32 x.a) (hb:W32 x.b):Told 1 k (tries k p.pid x):=by
 cases ht:triesB k p.pid x with
 |false=>
  rw [triesB_no ht]
  exact (Told.refl k).mono (Nat.zero_le _)
 |true=>
  have hT:=h.triedOk hp hst x ha hb
  obtain ⟨q,hq,hq1,hq2⟩:=hT.me
  rw [triesB_yes ht (find_st h.tab.so hp rfl) (find_st hT.inv.tab.so hq hq1)]
  obtain ⟨t1,⟨s,t2,t3⟩,t4,t5,t6,t7⟩:=tried_told k p x
  obtain ⟨f1,f2,f3,f4,f5,f6,f7,f8,f9⟩:=tried_frame k p x
  obtain ⟨⟨l,l1,l2,l3,l4⟩,⟨r,r1,r2⟩,g3,g4,g5,g6,g7,g8,g9,g10⟩:=hT.inv.answer_told hq rfl x (tried k p x).v (tried k p x).e
  have hc:(Kn.answer (tried k p x).k q x (tried k p x).v (tried k p x).e).cons=k.cons ++ s:=t2
  refine ⟨⟨[⟨q.pid,x.n,cval (tried k p x).e (tried k p x).v,(tried k p x).k.now⟩],by show (tried k p x).k.trace ++ _=_;rw [t1],Nat.le_refl _,fun e he'=> ?_,t4⟩,⟨s,hc,t3⟩,f4,f5,f6,f7,f8,t5,t6,fun B hB hq' r hr=> ?_⟩
  · rw [List.mem_singleton] at he'
    subst he'
    exact ⟨f4,hT.inv.tab.pos q hq⟩
  · have hu:put (tried k p x).k.p (back q (tried k p x).v (tried k p x).e)=Kn.upd (tried k p x).k.p (back q (tried k p x).v (tried k p x).e):=put_upd hT.inv.tab.so hq rfl
    have hr:r ∈ put (tried k p x).k.p (back q (tried k p x).v (tried k p x).e):=hr
    rw [hu] at hr
    have hB2:∀ y ∈ (tried k p x).k.p,y.pid≤B:=tried_pid h hp x hq'
    have:=pid_upd (p:=back q (tried k p x).v (tried k p x).e) hB2 ⟨q,hq,rfl⟩ r hr
    omega
end
end Kn
end Go.Proofs.YthgehdghihbiaaaGreatDoor
namespace Go.Proofs.YthgehdghihbiaaaGreatDoor
namespace Kn
section
variable {D:List Int} {k k':Kern} {p p':Proc}
theorem Told.same {a:Nat} {k k1 k2:Kern} (h:Told a k1 k2) (e1:k1.trace=k.trace) (e2:k1.sent=k.sent) (e3:k1.cons=k.cons) (e4:k1.now=k.now) (e5:k1.images=k.images) (e6:k1.outs=k.outs) (e7:k1.ins_=k.ins_) (e8:k1.hs=k.hs) (e9:k1.box=k.box) (e10:k1.p=k.p):Told a k k2:=by
 obtain ⟨⟨l,l1,l2,l3,l4⟩,⟨s,s1,s2⟩,h3,h4,h5,h6,h7,h8,h9,h10⟩:=h
 exact ⟨⟨l,by rw [l1,e1],l2,by rw [← e4];exact l3,by rw [← e2];exact l4⟩,⟨s,by rw [s1,e3],s2⟩,h3.trans e4,h4.trans e5,h5.trans e6,h6.trans e7,h7.trans e8,by rw [h8,e9],by rw [← e9];exact h9,by rw [← e10];exact h10⟩
structure Wake1Ok (D:List Int) (a:Nat) (k k':Kern):Prop where
 inv:Inv D k'
 told:Told a k k'
 gone:k'.gone=k.gone
 ne:k.p ≠ []→k'.p ≠ []
theorem put_ne {l:List Proc} (hs:Sorted l) {p q:Proc} (hq:q ∈ l) (he:q.pid=p.pid):put l p ≠ []:=by
 rw [put_upd hs hq he]
 exact List.ne_nil_of_mem (upd_mem hq he)
theorem Inv.wake1 {pid:Int} (h:Inv (pid::D) k):Wake1Ok D 1 k (Kn.wake1 k pid)∧∃ p ∈ k.p,p.pid=pid∧p.st=3:=by
 obtain ⟨p,hp,h1,h3⟩:=(h.al.2 pid).1 (List.mem_append_right _ List.mem_cons_self)
 subst h1
 refine ⟨?_,p,hp,rfl,h3⟩
 unfold Kn.wake1
 rw [h.tab.so.find hp]
 dsimp only
 rw [if_pos h3]
 exact ⟨h.wake3 hp h3 w32_0 _,(h.answer_told hp rfl _ _ _).t _,rfl,fun _=> put_ne h.tab.so hp rfl⟩
theorem Inv.wakes1:∀ (pre:List Int) {post:List Int} {k:Kern},Inv (pre ++ post) k→Wake1Ok post pre.length k (pre.foldl Kn.wake1 k)
 |[],_,k,h=> ⟨h,Told.refl k,rfl,fun h=> h⟩
 |a::pre,post,k,h=> by
  have h1:=(Inv.wake1 h).1
  have h2:=Inv.wakes1 pre h1.inv
  exact ⟨h2.inv,(h1.told.trans h2.told).mono (by rw [List.length_cons];omega),h2.gone.trans h1.gone,fun hn=> h2.ne (h1.ne hn)⟩
theorem Inv.due (h:Inv [] k) (now:Int):Inv (Kn.due k.s now) {k with s:=rest k.s now}:=by
 refine ⟨h.tab,h.n6,h.tn,h.tl,rest_sorted h.so _,?_,h.hr,h.h64,h.hp,h.po⟩
 have hal:=h.al
 rw [List.append_nil] at hal
 refine hal.perm ?_
 rw [← due_rest k.s now]
 exact List.perm_append_comm
structure Wake2Ok (a:Nat) (post:List Proc) (k k':Kern):Prop where
 inv:Inv [] k'
 told:Told a k k'
 gone:k'.gone=k.gone
 ne:k.p ≠ []→k'.p ≠ []
 post:∀ q ∈ post,q.st=2→∃ r ∈ k'.p,r.pid=q.pid∧r.st=2
theorem Inv.wake2_ (h:Inv [] k) {q:Proc} {post:List Proc} (hs:∀ y ∈ post,y.pid ≠ q.pid) (hw:PWord q) (hr:q.st=2→∃ r ∈ k.p,r.pid=q.pid∧r.st=2)
 (hpost:∀ y ∈ post,y.st=2→∃ r ∈ k.p,r.pid=y.pid∧r.st=2):Wake2Ok 1 post k (Kn.wake2 k q):=by
 unfold Kn.wake2
 split
 · next h2=>
   obtain ⟨r,hrm,hrp,hr2⟩:=hr h2
   cases ht:triesB k q.pid q.want with
   |false=>
    rw [if_neg (by decide),triesB_no ht]
    exact ⟨h,(Told.refl k).mono (Nat.zero_le _),rfl,fun h=> h,hpost⟩
   |true=>
    rw [if_pos rfl]
    have htold:=h.tries_told hrm (by omega) q.want hw.wa hw.wb
    rw [hrp] at htold
    have hT:=h.triedOk hrm (by omega) q.want hw.wa hw.wb
    obtain ⟨y,hy,hy1,hy2⟩:=hT.me
    have he:tries k q.pid q.want=Kn.answer (tried k r q.want).k y q.want (tried k r q.want).v (tried k r q.want).e:=triesB_yes ht (find_st h.tab.so hrm hrp) (find_st hT.inv.tab.so hy (hy1.trans hrp))
    have hi:=hT.inv.wake2 hy (by omega) (e:=(tried k r q.want).e) hT.v q.want
    have hyq:y.pid=q.pid:=hy1.trans hrp
    rw [hyq] at hi
    refine ⟨?_,htold.t _,?_,fun _=> ?_,fun z hz h2z=> ?_⟩
    · rw [he]
      exact hi
    · rw [he]
      exact tried_gone k r q.want
    · rw [he]
      exact put_ne hT.inv.tab.so hy rfl
    · obtain ⟨u,hu,hu1,hu2⟩:=hpost z hz h2z
      have:=hT.oth u hu (by have:=hs z hz;omega) (by omega)
      refine ⟨u,?_,hu1,hu2⟩
      rw [he]
      show u ∈ put _ (back y _ _)
      rw [put_upd hT.inv.tab.so hy (show y.pid=(back y (tried k r q.want).v (tried k r q.want).e).pid from rfl)]
      exact upd_mem_ne this (by show u.pid ≠ y.pid;have:=hs z hz;omega)
 · exact ⟨h,(Told.refl k).mono (Nat.zero_le _),rfl,fun h=> h,hpost⟩
theorem Inv.wakes2:∀ (pre:List Proc) {post:List Proc} {k:Kern},Inv [] k→Sorted (pre ++ post)→(∀ q ∈ pre ++ post,PWord q)→(∀ q ∈ pre ++ post,q.st=2→∃ r ∈ k.p,r.pid=q.pid∧r.st=2)→Wake2Ok pre.length post k (pre.foldl Kn.wake2 k)
 |[],_,k,h,_,_,hp=> ⟨h,Told.refl k,rfl,fun h=> h,hp⟩
 |q::pre,post,k,h,hs,hw,hp=> by
  obtain ⟨s1,s2⟩:=List.pairwise_cons.1 hs
  have h1:=h.wake2_ (q:=q) (post:=pre ++ post) (fun y hy=> by have:=s1 y hy;omega) (hw q List.mem_cons_self) (hp q List.mem_cons_self) (fun y hy=> hp y (List.mem_cons_of_mem _ hy))
  have h2:=Inv.wakes2 pre h1.inv s2 (fun y hy=> hw y (List.mem_cons_of_mem _ hy)) h1.post
  exact ⟨h2.inv,(h1.told.trans h2.told).mono (by rw [List.length_cons];omega),h2.gone.trans h1.gone,fun hn=> h2.ne (h1.ne hn),h2.post⟩
theorem sub_length:∀ {l m:List Int},l.Nodup→(∀ i ∈ l,i ∈ m)→l.length≤m.length
 |[],_,_,_=> Nat.zero_le _
 |a::l,m,hn,hs=> by
  obtain ⟨h1,h2⟩:=List.nodup_cons.1 hn
  have ha:=hs a List.mem_cons_self
  have:=sub_length (m:=m.erase a) h2 (fun i hi=> (List.mem_erase_of_ne (fun he=> h1 (by rw [← he];exact hi))).2 (hs i (List.mem_cons_of_mem _ hi)))
  rw [List.length_erase_of_mem ha] at this
  have:=List.length_pos_of_mem ha
  rw [List.length_cons]
  omega
theorem Keys.len {l:List Int} {ps:List Proc} {pr:Int→Prop} (h:Keys l ps pr):l.length≤ps.length:=by
 have:=sub_length (m:=ps.map (·.pid)) h.1 (fun i hi=> by
  obtain ⟨p,hp,h1,_⟩:=(h.2 i).1 hi
  exact List.mem_map.2 ⟨p,hp,h1⟩)
 rwa [List.length_map] at this
theorem Inv.wakes (h:Inv [] k):Wake2Ok 12 [] k (Kn.wakes k):=by
 have h0:=h.due k.now
 rw [← List.append_nil (Kn.due k.s k.now)] at h0
 have h1:=Inv.wakes1 _ h0
 have hlen:(Kn.due k.s k.now).length≤6:=by
  have:=h.al.len
  rw [List.append_nil,← due_rest k.s k.now,List.length_append] at this
  have:=h.n6
  omega
 have h2:=Inv.wakes2 (Kn.wakes1 k).p (post:=[]) (k:=Kn.wakes1 k) h1.inv (by rw [List.append_nil];exact h1.inv.tab.so) (by rw [List.append_nil];exact h1.inv.tab.wd) (by rw [List.append_nil];exact fun q hq h2=> ⟨q,hq,rfl,h2⟩)
 have hn:(Kn.wakes1 k).p.length≤6:=h1.inv.n6
 have t1:Told (Kn.due k.s k.now).length k (Kn.wakes1 k):=h1.told.same rfl rfl rfl rfl rfl rfl rfl rfl rfl rfl
 exact ⟨h2.inv,(t1.trans h2.told).mono (by omega),h2.gone.trans h1.gone,fun hne=> h2.ne (h1.ne hne),h2.post⟩
theorem adopt_le {l:List Proc} {B s d:Int} (h:∀ q ∈ l,q.pid≤B):∀ q ∈ adopt l s d,q.pid≤B:=fun q hq=> by
 rw [adopt_eq] at hq
 obtain ⟨y,hy,rfl⟩:=List.mem_map.1 hq
 rw [ado_pid]
 exact h y hy
theorem Inv.ends_told (h:Inv D k) (hp:p ∈ k.p) (code why:Int):Told 0 k (ends k p.pid code why):=by
 unfold ends
 split
 · exact Told.rows rfl rfl rfl rfl rfl rfl rfl rfl rfl (fun B _ _ q hq=> nomatch hq)
 · dsimp only
   rw [h.tab.so.find hp]
   dsimp only [Option.getD_some]
   split
   · exact Told.rows rfl rfl rfl rfl rfl rfl rfl rfl rfl (fun B _ hB q hq=> adopt_le hB q (mem_remove.1 hq).1)
   · refine Told.rows rfl rfl rfl rfl rfl rfl rfl rfl rfl (fun B _ hB q hq=> ?_)
     have hme:ado p.pid 1 p ∈ adopt k.p p.pid 1:=by rw [adopt_eq];exact List.mem_map_of_mem hp
     have hq:q ∈ put (adopt k.p p.pid 1) (over p code):=hq
     rw [put_upd (h.tab.so.adopt p.pid 1) hme (show (ado p.pid 1 p).pid=(over p code).pid from ado_pid _ _ _)] at hq
     exact pid_upd (p:=over p code) (adopt_le hB) ⟨ado p.pid 1 p,hme,ado_pid _ _ _⟩ q hq
theorem fresh_told (k:Kern) (p:Proc):Told 1 k (Kn.fresh k p):=by
 unfold Kn.fresh
 split
 · exact (Told.refl k).mono (Nat.zero_le _)
 · split
   · refine ⟨⟨[],(List.append_nil _).symm,Nat.zero_le _,fun e h=> (nomatch h),by simp⟩,⟨⟨#[]⟩,(ba_app_empty _).symm,Nat.zero_le _⟩,rfl,rfl,rfl,rfl,rfl,rfl,fun i b h=> ⟨b,0,h,rfl,rfl⟩,fun B hB h q hq=> ?_⟩
     have hq:q ∈ put k.p (born p (next k.p)):=hq
     rw [put_new (p:=born p (next k.p)) (next_gt k.p)] at hq
     rcases List.mem_append.1 hq with hq|hq
     · have:=h q hq;omega
     · rw [List.mem_singleton] at hq
       subst hq
       have:=next_le hB h
       show next k.p≤_
       omega
   · exact (Told.refl k).mono (Nat.zero_le _)
theorem Inv.asks_told (h:Inv [] k) (hp:p ∈ k.p) (h1:p.st=1) {x:Call} (hx:CWord x):Told 2 k (Kn.asks k p x):=by
 have ans:∀ {k1:Kern} {q q':Proc} (v e:Int),Inv [] k1→q ∈ k1.p→q'.pid=q.pid→Told 1 k1 (Kn.answer k1 q' x v e):=fun v e h hq he=> h.answer_told hq he x v e
 have hwd:=h.tab.wd p hp
 have hmem:=h.tab.mem p hp
 have hlive:∃ q ∈ k.p,q.pid=p.pid∧q.st ≠ 4:=⟨p,hp,rfl,by omega⟩
 have z:=w32_0
 unfold Kn.asks
 by_cases c1:x.n=1
 · rw [if_pos c1]
   exact (h.ends_told hp _ _).mono (by omega)
 rw [if_neg c1]
 by_cases c7:x.n=7
 · rw [if_pos c7]
   exact ((ans _ _ h hp rfl).t _).mono (by omega)
 rw [if_neg c7]
 by_cases c8:x.n=8
 · rw [if_pos c8]
   split
   · refine Told.mono (a:=0) (Told.rows rfl rfl rfl rfl rfl rfl rfl rfl rfl (fun B _ hB q hq=> ?_)) (Nat.zero_le _)
     have hq:q ∈ put k.p ({p with st:=3,wn:=x.n,wa:=x.a,wb:=x.b,wc:=x.c}:Proc):=hq
     rw [put_upd (p:=({p with st:=3,wn:=x.n,wa:=x.a,wb:=x.b,wc:=x.c}:Proc)) h.tab.so hp rfl] at hq
     refine pid_upd hB ?_ q hq;exact ⟨p,hp,rfl⟩
   · exact (ans _ _ h hp rfl).mono (by omega)
 rw [if_neg c8]
 by_cases c20:x.n=20
 · rw [if_pos c20]
   split
   · exact (ans _ _ h hp rfl).mono (by omega)
   · refine Told.mono (a:=1) (b:=2) ?_ (by omega);exact (ans (k1:={k with want:=(3 + x.a)}) _ _ (h.want (3 + x.a)) hp rfl).same rfl rfl rfl rfl rfl rfl rfl rfl rfl rfl
 rw [if_neg c20]
 by_cases c19:x.n=19
 · rw [if_pos c19]
   refine Told.mono (a:=1) (b:=2) ?_ (by omega);exact (ans (k1:={k with want:=(k.want + 1 + 1)}) _ _ (h.want (k.want + 1 + 1)) hp rfl).same rfl rfl rfl rfl rfl rfl rfl rfl rfl rfl
 rw [if_neg c19]
 by_cases c18:x.n=18
 · rw [if_pos c18]
   refine Told.mono (a:=1) (b:=2) ?_ (by omega);exact (ans (k1:={k with want:=(k.want + 1)}) _ _ (h.want (k.want + 1)) hp rfl).same rfl rfl rfl rfl rfl rfl rfl rfl rfl rfl
 rw [if_neg c18]
 by_cases c5:x.n=5
 · rw [if_pos c5]
   unfold kills
   split
   · exact (ans _ _ h hp rfl).mono (by omega)
   · next hna=>
     split
     · exact (ans _ _ h hp rfl).mono (by omega)
     · next hv=>
       unfold victim at hv
       cases hq:find k.p x.a with
       |none=> rw [hq] at hv;exact absurd rfl hv
       |some q=>
        rw [hq] at hv
        obtain ⟨hqm,hqp⟩:=find_mem hq
        have h4:q.st ≠ 4:=fun h4=> hv (by show (!(q.st==4))=false;simp [h4])
        have hE:=h.ends2 hqm h4 (by omega) 137 0
        have hT:=h.ends_told hqm 137 0
        rw [hqp] at hE hT
        dsimp only
        split
        · exact hT.mono (by omega)
        · next hxp=>
          obtain ⟨r,hr,hr1,hr2⟩:=hE.oth p hp (by omega)
          rw [find_st hE.inv.tab.so hr hr1]
          exact (hT.trans (ans _ _ hE.inv hr rfl)).mono (by omega)
 rw [if_neg c5]
 have hfd:∀ n e,(k.pipes.length:Int)<n→fdn p n e=0:=fun n e hn=> by
  have:=h.po.out n e hn
  have:=cnt_ge hp n e
  have:=(fdn_range p n e).1
  omega
 by_cases c3:x.n=3
 · rw [if_pos c3]
   have hF:FreshOk [] k (Kn.fresh k (forked p)):=h.fresh (p:=forked p) hmem ⟨Words.set0 hwd.rs z,hwd.pc,hwd.wn,hwd.wa,hwd.wb,hwd.wc⟩ (.inr hlive) hfd
   exact (fresh_told k (forked p)).trans (ans _ _ hF.inv (hF.oth p hp) rfl)
 rw [if_neg c3]
 by_cases c2:x.n=2
 · rw [if_pos c2]
   split
   · next hi=>
     have hF:FreshOk [] k (Kn.fresh k (spawned p (imageM k x.a))):=h.fresh (p:=spawned p (imageM k x.a)) (imageM_size hi) ⟨zero_word.rs,z,z,z,z,z⟩ (.inr hlive) (fun n e hn=> zero_fd ⟨rfl,rfl,rfl,rfl,rfl,rfl,rfl,rfl⟩ n e (by omega))
     exact (fresh_told k (spawned p (imageM k x.a))).trans (ans _ _ hF.inv (hF.oth p hp) rfl)
   · exact (ans _ _ h hp rfl).mono (by omega)
 rw [if_neg c2]
 by_cases c17:x.n=17
 · rw [if_pos c17]
   split
   · exact (ans (q':=execd p (imageM k x.a)) _ _ h hp rfl).mono (by omega)
   · exact (ans _ _ h hp rfl).mono (by omega)
 rw [if_neg c17]
 by_cases cT:triesB k p.pid x=true
 · rw [if_pos cT]
   exact (h.tries_told hp (by omega) x hx.a hx.b).mono (by omega)
 · rw [if_neg cT]
   rw [triesB_no (by simpa using cT)]
   refine Told.mono (a:=0) (Told.rows rfl rfl rfl rfl rfl rfl rfl rfl rfl (fun B _ hB q hq=> ?_)) (Nat.zero_le _)
   have hq:q ∈ put k.p ({p with st:=2,wn:=x.n,wa:=x.a,wb:=x.b,wc:=x.c}:Proc):=hq
   rw [put_upd (p:=({p with st:=2,wn:=x.n,wa:=x.a,wb:=x.b,wc:=x.c}:Proc)) h.tab.so hp rfl] at hq
   refine pid_upd hB ?_ q hq;exact ⟨p,hp,rfl⟩
theorem with_words {p:Proc} (h:PWord p):Like (p.with_ (stepped p)) p∧(stepped p).m.size=p.mem.size∧CWord (p.with_ (stepped p)).from_∧((stepped p).t=0∨(stepped p).t=1∨(stepped p).t=2∨(stepped p).t=3)∨p.mem.size ≠ 64:=by
 by_cases hm:p.mem.size=64
 · have hk:Kept [p.r0,p.r1,p.r2,p.r3,p.r4,p.r5,p.r6,p.r7] p.pc p.mem (stepped p):=step_kept h.rs h.pc.1 h.pc.2 p.mem
   have hw:=hk.words
   left
   refine ⟨⟨rfl,rfl,hk.size.trans hm,⟨⟨rfl,fun x hx=> ?_⟩,⟨hk.lo,hk.hi⟩,h.wn,h.wa,h.wb,h.wc⟩,fun _ _ _=> rfl⟩,hk.size,⟨hw.at 0,hw.at 1,hw.at 2,hw.at 3⟩,?_⟩
   · simp only [List.mem_cons,List.not_mem_nil,or_false] at hx
     rcases hx with rfl|rfl|rfl|rfl|rfl|rfl|rfl|rfl
     · exact hw.at 0
     · exact hw.at 1
     · exact hw.at 2
     · exact hw.at 3
     · exact hw.at 4
     · exact hw.at 5
     · exact hw.at 6
     · exact hw.at 7
   · rcases hk.ways with g|g|g
     · rcases g.1 with g|g <;> omega
     · omega
     · omega
 · exact .inr hm
structure GoesOk (k k':Kern):Prop where
 inv:Inv [] k'
 told:Told 2 k k'
 life:Life k'
theorem Inv.goes (h:Inv [] k) (hg:k.gone=0) (hne:k.p ≠ []):GoesOk k (Kn.goes k):=by
 unfold Kn.goes
 cases htl:k.t.l with
 |nil=> exact ⟨h,(Told.refl k).mono (Nat.zero_le _),.inl ⟨hg,hne⟩⟩
 |cons pid r=>
  dsimp only
  obtain ⟨p,hp,hpid,h1⟩:=(h.tn.2 pid).1 (by rw [htl];exact List.mem_cons_self)
  rw [find_st h.tab.so hp hpid]
  dsimp only [Option.getD_some]
  have hmem:=h.tab.mem p hp
  rcases with_words (h.tab.wd p hp) with ⟨hk,_,hcw,ht⟩|hbad
  · have hq:p.with_ (stepped p) ∈ put k.p (p.with_ (stepped p)):=by
     rw [put_upd h.tab.so hp (show p.pid=(p.with_ (stepped p)).pid from rfl)]
     exact upd_mem hp rfl
    have hi:Inv [] {k with p:=put k.p (p.with_ (stepped p))}:=h.change hp hk (by omega) rfl rfl rfl rfl rfl rfl rfl
    have hto:Told 0 k {k with p:=put k.p (p.with_ (stepped p))}:=Told.rows rfl rfl rfl rfl rfl rfl rfl rfl rfl (fun B _ hB q hq=> by
     have hq:q ∈ put k.p (p.with_ (stepped p)):=hq
     rw [put_upd h.tab.so hp (show p.pid=(p.with_ (stepped p)).pid from rfl)] at hq
     refine pid_upd hB ?_ q hq;exact ⟨p,hp,rfl⟩)
    have hne1:put k.p (p.with_ (stepped p)) ≠ []:=List.ne_nil_of_mem hq
    split
    · exact ⟨⟨hi.tab,hi.n6,hi.tn.perm (tspend_perm _),tspend_left hi.tl,hi.so,hi.al,hi.hr,hi.h64,hi.hp,hi.po⟩,(hto.t _).mono (by omega),.inl ⟨hg,hne1⟩⟩
    split
    · have ha:=hi.asks (p:=p.with_ (stepped p)) hq h1 hcw
      have hta:=hto.trans (hi.asks_told (p:=p.with_ (stepped p)) hq h1 hcw)
      have hl:Life (Kn.asks {k with p:=put k.p (p.with_ (stepped p))} (p.with_ (stepped p)) (p.with_ (stepped p)).from_):=by
       rcases ha.life with g|g
       · exact .inl ⟨g.1.trans hg,g.2⟩
       · exact .inr g
      split
      · exact ⟨⟨ha.inv.tab,ha.inv.n6,ha.inv.tn.perm (tspend_perm _),tspend_left ha.inv.tl,ha.inv.so,ha.inv.al,ha.inv.hr,ha.inv.h64,ha.inv.hp,ha.inv.po⟩,(hta.t _).mono (by omega),hl⟩
      · exact ⟨ha.inv,hta.mono (by omega),hl⟩
    · have he:=(h.ends_told hp (128 + (stepped p).t) (stepped p).t).mono (b:=2) (by omega)
      rw [hpid] at he
      by_cases h1p:pid=1
      · subst h1p
        refine ⟨h.ends1 _ _,he,.inr ⟨?_,by unfold ends;rw [if_pos rfl]⟩⟩
        unfold ends
        rw [if_pos rfl]
        show 1 + (stepped p).t ≠ 0
        omega
      · have hE:=h.ends2 hp (by omega) (by omega) (128 + (stepped p).t) (stepped p).t
        rw [hpid] at hE
        exact ⟨hE.inv,he,.inl ⟨hE.gone.trans hg,hE.ne⟩⟩
  · exact absurd hmem hbad
structure StepOk (k k':Kern):Prop where
 inv:Inv [] k'
 life:Life k'
 told:∃ k2,Told 14 {k with sent:=[],want:=0} k2∧k'={k2 with now:=til k.now 1}
theorem Inv.step (h:Inv [] k) (hl:Life k):StepOk k (Kn.step k):=by
 unfold Kn.step
 dsimp only
 have h1:Inv [] {k with sent:=[],want:=0}:=h.same rfl rfl rfl rfl rfl rfl
 split
 · next hg=>
   have hne:k.p ≠ []:=by
    rcases hl with g|g
    · exact g.2
    · exact absurd hg g.1
   have hw:=h1.wakes
   have hgo:=hw.inv.goes (hw.gone.trans hg) (hw.ne hne)
   have ht:=hw.told.trans hgo.told
   refine ⟨hgo.inv.same rfl rfl rfl rfl rfl rfl,hgo.life,_,ht,?_⟩
   rw [ht.now]
 · next hg=> exact ⟨h1.same rfl rfl rfl rfl rfl rfl,hl,_,(Told.refl _).mono (Nat.zero_le _),rfl⟩
theorem Inv.arrive (h:Inv D k) (n:Int) (body:ByteArray) (at_:Int):Inv D (Kn.arrive k n body at_):=by
 unfold Kn.arrive
 split
 · exact h
 · split
   · exact h.same rfl rfl rfl rfl rfl rfl
   · exact h
theorem boot_ok (mem:Int) (images:List ByteArray) (outs ins:List Chan) (now:Int):Inv [] (boot mem images outs ins now)∧Life (boot mem images outs ins now):=by
 unfold boot
 dsimp only
 have hr:∀ m:Int,0≤m→hright m []=true:=fun m h0=> by
  unfold hright
  rw [Bool.and_eq_true]
  exact ⟨rfl,by simpa using h0⟩
 generalize hk0:({p:=[],t:=⟨[],0⟩,s:=[],pipes:=[],hs:=if mem<0 then 0 else mem,h:=[],now:=now,images:=images,outs:=outs,ins_:=ins,box:=List.replicate ins.length ⟨[],0⟩,cons:=⟨#[]⟩,trace:=[],sent:=[],want:=0,gone:=0}:Kern)=k0
 have hg:k0.gone=0:=by rw [← hk0]
 have hp:k0.p=[]:=by rw [← hk0]
 have h0:Inv [] k0:=by
  rw [← hk0]
  exact ⟨TabOk.nil,Nat.zero_le _,Keys.nil _,⟨show (0:Int)≤0 by decide,show (0:Int)≤5 by decide⟩,List.Pairwise.nil,Keys.nil _,hr _ (by dsimp only;split <;> omega),fun s hs=> (nomatch hs),Keys.nil _,⟨fun i q hq=> by simp at hq,Nat.zero_le _,fun n e _=> rfl⟩⟩
 by_cases hi:imageE k0 0=0
 · rw [if_pos hi,if_pos hi]
   have z:=w32_0
   have hF:FreshOk [] k0 (fresh k0 {Proc.zero with mem:=imageM k0 0}):=h0.fresh (p:={Proc.zero with mem:=imageM k0 0}) (imageM_size hi) ⟨zero_word.rs,z,z,z,z,z⟩ (.inl ⟨hp,rfl⟩) (fun n e hn=> zero_fd ⟨rfl,rfl,rfl,rfl,rfl,rfl,rfl,rfl⟩ n e (by omega))
   by_cases he:freshE k0=0
   · rw [if_pos he]
     exact ⟨hF.inv,.inl ⟨hF.gone.trans hg,hF.ne he⟩⟩
   · rw [if_neg he]
     refine ⟨hF.inv.same rfl rfl rfl rfl rfl rfl,.inr ⟨show (1:Int) ≠ 0 by decide,?_⟩⟩
     show (fresh k0 _).p=[]
     unfold freshE at he
     unfold Kn.fresh
     split
     · exact hp
     · next h6=>
       rw [if_neg h6] at he
       rw [if_neg he]
       exact hp
 · rw [if_neg hi,if_neg hi,if_neg hi]
   exact ⟨h0.same rfl rfl rfl rfl rfl rfl,.inr ⟨show (1:Int) ≠ 0 by decide,hp⟩⟩
end
end Kn
end Go.Proofs.YthgehdghihbiaaaGreatDoor
namespace Go.Proofs.YthgehdghihbiaaaGreatDoor
open Go.RowKit KR
namespace Kn
structure Bd (k:Kern):Prop where
 tr:k.trace.length≤900000
 co:k.cons.size≤900000
 se:k.sent.length≤90000
 pid:∀ q ∈ k.p,q.pid≤900000
 bl:k.box.length≤1000000
 bd:∀ q ∈ k.box,∀ m ∈ q.l,m.body.size≤140737488355328
 now0:0≤k.now
 now1:k.now≤18446744073709551615
 im:k.images.length≤1000000
 hs0: -9223372036854775808≤k.hs
 hs1:k.hs≤9223372036854775807
theorem Bd.fit {D:List Int} {a:Nat} {k k':Kern} (h:Bd k) (hi:Inv D k') (ht:Told a k k') (ha:a≤1000):Fit k':=by
 have hn6:=hi.n6
 obtain ⟨l,l1,l2,_,l4⟩:=ht.tr
 obtain ⟨s,s1,s2⟩:=ht.co
 have hal:=hi.al.len
 rw [List.length_append,List.length_map] at hal
 have hhp:=hi.hp.len
 rw [List.length_map] at hhp
 have htn:=hi.tn.len
 have hpo:=hi.po.n
 refine ⟨by omega,by omega,⟨by have:=hi.tl;omega,by have:=hi.tl;omega⟩,by omega,by omega,fun q hq=> ?_,fun q hq=> ?_,by omega,by rw [ht.hs];exact h.hs0,by rw [ht.hs];exact h.hs1,fun q hq=> ?_,fun q hq=> by rw [hi.tab.mem q hq];omega,?_,?_,by rw [ht.bl];exact h.bl,fun q hq m hm=> ?_,?_,by rw [ht.now];exact h.now0,by rw [ht.now];exact h.now1,by rw [ht.im];exact h.im⟩
 · obtain ⟨i,hq⟩:=List.mem_iff_getElem?.1 hq
   obtain ⟨h1,h2,_⟩:=hi.po.ok i q hq
   have r1:=cnt_range k'.p ((i:Int) + 1) false
   have r2:=cnt_range k'.p ((i:Int) + 1) true
   omega
 · obtain ⟨i,hq⟩:=List.mem_iff_getElem?.1 hq
   have:=(hi.po.ok i q hq).2.2
   omega
 · have:=ht.pid 900000 (by decide) h.pid q hq
   omega
 · rw [l1,List.length_append]
   have:=h.tr
   omega
 · have:=h.se
   omega
 · obtain ⟨i,hq⟩:=List.mem_iff_getElem?.1 hq
   obtain ⟨b,n,b1,b2,_⟩:=ht.box i q hq
   rw [b2] at hm
   exact h.bd b (List.mem_of_getElem? b1) m (List.mem_of_mem_drop hm)
 · rw [s1,ByteArray.size_append]
   have:=h.co
   omega
theorem Bd.fresh {k:Kern} (h:Bd k):Bd {k with sent:=[],want:=0}:=⟨h.tr,h.co,Nat.zero_le _,h.pid,h.bl,h.bd,h.now0,h.now1,h.im,h.hs0,h.hs1⟩
end Kn
end Go.Proofs.YthgehdghihbiaaaGreatDoor
namespace Go.Proofs.YthgehdghihbiaaaGreatDoor
namespace Kn
structure Ready (k:Kern):Prop where
 inv:Inv [] k
 life:Life k
 bd:Bd k
theorem run_add (a:Nat):∀ (b:Nat) (k:Kern),run (a + b) k=run b (run a k):=by
 induction a with
 |zero=> intro b k;rw [Nat.zero_add];rfl
 |succ a ih=> intro b k;rw [Nat.add_right_comm];exact ih b (step k)
theorem run_succ (n:Nat) (k:Kern):run (n + 1) k=step (run n k):=run_add n 1 k
structure Good (n:Nat) (k:Kern):Prop where
 inv:Inv [] k
 life:Life k
 tr:k.trace.length≤14 * n
 co:k.cons.size≤14 * n
 se:k.sent.length≤14
 pid:∀ q ∈ k.p,q.pid≤14 * n + 1
 bl:k.box.length≤100
 il:k.ins_.length≤100
 im:k.images.length≤100
 bn:∀ q ∈ k.box,q.l.length≤n∧0≤q.lost∧q.lost≤n
 bd:∀ q ∈ k.box,∀ m ∈ q.l,m.body.size≤140737488355328
 now0:0≤k.now
 now1:k.now≤18446744073709551615
 hs0: -9223372036854775808≤k.hs
 hs1:k.hs≤9223372036854775807
theorem Good.ready {n:Nat} {k:Kern} (h:Good n k) (hn:n≤60000):Ready k:=
 ⟨h.inv,h.life,by have:=h.tr;omega,by have:=h.co;omega,by have:=h.se;omega,fun q hq=> by have:=h.pid q hq;omega,by have:=h.bl;omega,h.bd,h.now0,h.now1,by have:=h.im;omega,h.hs0,h.hs1⟩
theorem Good.mono {n m:Nat} {k:Kern} (h:Good n k) (hn:n≤m):Good m k:=
 ⟨h.inv,h.life,by have:=h.tr;omega,by have:=h.co;omega,h.se,fun q hq=> by have:=h.pid q hq;omega,h.bl,h.il,h.im,fun q hq=> by have:=h.bn q hq;omega,h.bd,h.now0,h.now1,h.hs0,h.hs1⟩
theorem til_range {now n:Int} (h0:0≤now) (h1:now≤18446744073709551615) (hn:0≤n):now≤til now n∧0≤til now n∧til now n≤18446744073709551615:=by
 unfold til
 omega
theorem Good.step {n:Nat} {k:Kern} (h:Good n k):Good (n + 1) (step k):=by
 obtain ⟨hi,hl,k2,ht,he⟩:=h.inv.step h.life
 obtain ⟨⟨l,t1,t2,t3,t4⟩,⟨s,s1,s2⟩,h3,h4,h5,h6,h7,h8,h9,h10⟩:=ht
 have htl:=til_range h.now0 h.now1 (by decide:(0:Int)≤1)
 have e0:=h.tr
 have e1:=h.co
 refine ⟨hi,hl,?_,?_,?_,?_,?_,?_,?_,?_,?_,?_,?_,?_,?_⟩
 · rw [he]
   show k2.trace.length≤_
   rw [t1,List.length_append]
   show k.trace.length + _≤_
   omega
 · rw [he]
   show k2.cons.size≤_
   rw [s1,ByteArray.size_append]
   show k.cons.size + _≤_
   omega
 · rw [he]
   show k2.sent.length≤_
   have:k2.sent.length≤0 + l.length:=t4
   omega
 · rw [he]
   intro q hq
   have:=h10 (14 * n + 1) (by omega) h.pid q hq
   omega
 · rw [he]
   show k2.box.length≤_
   rw [h8]
   exact h.bl
 · rw [he]
   show k2.ins_.length≤_
   rw [h6]
   exact h.il
 · rw [he]
   show k2.images.length≤_
   rw [h4]
   exact h.im
 · rw [he]
   intro q hq
   obtain ⟨i,hi⟩:=List.getElem?_of_mem hq
   obtain ⟨b,m,b1,b2,b3⟩:=h9 i q hi
   have:=h.bn b (List.mem_of_getElem? b1)
   rw [b2,b3,List.length_drop]
   omega
 · rw [he]
   intro q hq m hm
   obtain ⟨i,hi⟩:=List.getElem?_of_mem hq
   obtain ⟨b,j,b1,b2,b3⟩:=h9 i q hi
   rw [b2] at hm
   exact h.bd b (List.mem_of_getElem? b1) m (List.mem_of_mem_drop hm)
 · rw [he]
   exact htl.2.1
 · rw [he]
   exact htl.2.2
 · rw [he]
   show _≤k2.hs
   rw [h7]
   exact h.hs0
 · rw [he]
   show k2.hs≤_
   rw [h7]
   exact h.hs1
theorem Good.run {n:Nat} {k:Kern} (h:Good n k):∀ m:Nat,Good (n + m) (run m k)
 |0=> h
 |m + 1=> by
  rw [run_succ]
  exact (Good.run h m).step
theorem Good.arrive {n:Nat} {k:Kern} (h:Good n k) (j:Int) (body:ByteArray) (at_:Int) (hb:body.size≤140737488355328):Good (n + 1) (arrive k j body at_):=by
 have hi:=h.inv.arrive j body at_
 unfold Kn.arrive at hi ⊢
 split
 · exact h.mono (Nat.le_succ n)
 next hj=>
 rw [if_neg hj] at hi
 split
 · next c b hc hb2=>
   rw [hc,hb2] at hi
   dsimp only at hi
   have hbn:=h.bn b (List.mem_of_getElem? hb2)
   have hbd:=h.bd b (List.mem_of_getElem? hb2)
   refine ⟨hi,h.life,by have:=h.tr;show k.trace.length≤_;omega,by have:=h.co;show k.cons.size≤_;omega,h.se,fun q hq=> by have:=h.pid q hq;omega,by show (k.box.set _ _).length≤_;rw [List.length_set];exact h.bl,h.il,h.im,?_,?_,h.now0,h.now1,h.hs0,h.hs1⟩
   · intro q hq
     rcases List.mem_or_eq_of_mem_set hq with hq|rfl
     · have:=h.bn q hq
       omega
     · unfold bsend
       split
       · omega
       · split
         · dsimp only [List.length_singleton,List.length_cons,List.length_nil]
           omega
         · split
           · dsimp only
             rw [List.length_append,List.length_singleton]
             omega
           · dsimp only
             omega
   · intro q hq m hm
     rcases List.mem_or_eq_of_mem_set hq with hq|rfl
     · exact h.bd q hq m hm
     · unfold bsend at hm
       split at hm
       · exact hbd m hm
       · split at hm
         · rw [List.mem_singleton.1 hm]
           exact hb
         · split at hm
           · rcases List.mem_append.1 hm with hm|hm
             · exact hbd m hm
             · rw [List.mem_singleton.1 hm]
               exact hb
           · exact hbd m hm
 · exact h.mono (Nat.le_succ n)
theorem fresh_frame (k:Kern) (p:Proc):(fresh k p).now=k.now∧(fresh k p).images=k.images∧(fresh k p).ins_=k.ins_∧(fresh k p).outs=k.outs∧(fresh k p).box=k.box∧(fresh k p).hs=k.hs∧(fresh k p).sent=k.sent∧(fresh k p).cons=k.cons∧(fresh k p).trace=k.trace:=by
 unfold fresh
 split
 · exact ⟨rfl,rfl,rfl,rfl,rfl,rfl,rfl,rfl,rfl⟩
 · split <;> exact ⟨rfl,rfl,rfl,rfl,rfl,rfl,rfl,rfl,rfl⟩
theorem boot_frame (mem:Int) (images:List ByteArray) (outs ins:List Chan) (now:Int):(boot mem images outs ins now).now=now∧(boot mem images outs ins now).images=images∧(boot mem images outs ins now).ins_=ins∧(boot mem images outs ins now).outs=outs∧(boot mem images outs ins now).box=List.replicate ins.length ⟨[],0⟩∧(boot mem images outs ins now).hs=(if mem<0 then 0 else mem)∧(boot mem images outs ins now).sent=[]∧(boot mem images outs ins now).cons=⟨#[]⟩∧(boot mem images outs ins now).trace=[]∧∀ q ∈ (boot mem images outs ins now).p,q.pid≤1:=by
 unfold boot
 dsimp only
 generalize hk:Kern.mk [] ⟨[],0⟩ [] [] (if mem<0 then 0 else mem) [] now images outs ins (List.replicate ins.length ⟨[],0⟩) ⟨#[]⟩ [] [] 0 0=k0
 have hf:k0.now=now∧k0.images=images∧k0.ins_=ins∧k0.outs=outs∧k0.box=List.replicate ins.length ⟨[],0⟩∧k0.hs=(if mem<0 then 0 else mem)∧k0.sent=[]∧k0.cons=⟨#[]⟩∧k0.trace=[]∧k0.p=[]:=by
  rw [← hk]
  exact ⟨rfl,rfl,rfl,rfl,rfl,rfl,rfl,rfl,rfl,rfl⟩
 clear hk
 obtain ⟨f1,f2,f3,f4,f5,f6,f7,f8,f9,f10⟩:=hf
 have hp:∀ p:Proc,∀ q ∈ (fresh k0 p).p,q.pid≤1:=by
  intro p q hq
  unfold fresh at hq
  rw [f10] at hq
  split at hq
  · rw [f10] at hq;cases hq
  · split at hq
    · have hpn:put [] (born p (next []))=[born p (next [])]:=put_new (fun q h=> nomatch h)
      dsimp only at hq
      rw [hpn,List.mem_singleton] at hq
      rw [hq]
      exact Int.le_refl _
    · rw [f10] at hq;cases hq
 have ff:∀ p:Proc,(fresh k0 p).now=now∧(fresh k0 p).images=images∧(fresh k0 p).ins_=ins∧(fresh k0 p).outs=outs∧(fresh k0 p).box=List.replicate ins.length ⟨[],0⟩∧(fresh k0 p).hs=(if mem<0 then 0 else mem)∧(fresh k0 p).sent=[]∧(fresh k0 p).cons=⟨#[]⟩∧(fresh k0 p).trace=[]∧∀ q ∈ (fresh k0 p).p,q.pid≤1:=by
  intro p
  obtain ⟨g1,g2,g3,g4,g5,g6,g7,g8,g9⟩:=fresh_frame k0 p
  exact ⟨g1.trans f1,g2.trans f2,g3.trans f3,g4.trans f4,g5.trans f5,g6.trans f6,g7.trans f7,g8.trans f8,g9.trans f9,hp p⟩
 by_cases h1:imageE k0 0=0
 · simp only [if_pos h1]
   by_cases h2:freshE k0=0
   · rw [if_pos h2]
     exact ff _
   · rw [if_neg h2]
     exact ff _
 · simp only [if_neg h1]
   exact ⟨f1,f2,f3,f4,f5,f6,f7,f8,f9,fun q hq=> by rw [f10] at hq;cases hq⟩
theorem boot_good (mem:Int) (images:List ByteArray) (outs ins:List Chan) (now:Int) (h1:images.length≤100) (h2:ins.length≤100) (h3:0≤now) (h4:now≤18446744073709551615) (h5: -9223372036854775808≤mem) (h6:mem≤9223372036854775807):Good 0 (boot mem images outs ins now):=by
 obtain ⟨i1,i2⟩:=boot_ok mem images outs ins now
 obtain ⟨e1,e2,e3,_,e4,e5,e6,e7,e8,e9⟩:=boot_frame mem images outs ins now
 refine ⟨i1,i2,by rw [e8];exact Nat.le_refl _,by rw [e7];exact Nat.le_refl _,by rw [e6];exact Nat.zero_le _,fun q hq=> by have:=e9 q hq;omega,by rw [e4,List.length_replicate];exact h2,by rw [e3];exact h2,by rw [e2];exact h1,?_,?_,by rw [e1];exact h3,by rw [e1];exact h4,by rw [e5];split <;> omega,by rw [e5];split <;> omega⟩
 · rw [e4]
   intro q hq
   rw [List.eq_of_mem_replicate hq]
   exact ⟨Nat.le_refl _,Int.le_refl _,Int.le_refl _⟩
 · rw [e4]
   intro q hq m hm
   rw [List.eq_of_mem_replicate hq] at hm
   cases hm
structure Deed where
 kind:Int
 n:Int
 body:ByteArray
 at_:Int
def Deed.cells (a:Deed):Array Value:=#[.int .i64 a.kind,.int .i64 a.n,.string a.body,.int .u64 a.at_]
def steps (n:Int):Int:=if 60<n then 60 else n
def deed (k:Kern) (a:Deed):Kern:=if a.kind=2 then arrive k a.n a.body a.at_ else if a.kind=1 then run (steps a.n).toNat k else k
theorem Good.deed {n:Nat} {k:Kern} (h:Good n k) (a:Deed) (ha:a.body.size≤140737488355328):Good (n + 60) (deed k a):=by
 unfold Kn.deed
 split
 · exact (h.arrive a.n a.body a.at_ ha).mono (by omega)
 · split
   · refine (h.run (steps a.n).toNat).mono ?_
     unfold steps
     split <;> omega
   · exact h.mono (by omega)
theorem step_now {k:Kern} (h:Inv [] k) (hl:Life k):(step k).now=til k.now 1:=by
 obtain ⟨hi,hl,k2,ht,he⟩:=h.step hl
 rw [he]
theorem arrive_now (k:Kern) (j:Int) (body:ByteArray) (at_:Int):(arrive k j body at_).now=k.now:=by
 unfold arrive
 split
 · rfl
 · split <;> rfl
theorem count_nodup:∀ {l:List Int},l.Nodup→∀ i:Int,l.count i=if i ∈ l then 1 else 0
 |[],_,i=> by simp
 |a::l,h,i=> by
  obtain ⟨h1,h2⟩:=List.nodup_cons.1 h
  rw [List.count_cons,count_nodup h2 i]
  by_cases e:a=i
  · subst e
    simp [h1]
  · have:¬ i=a:=fun h=> e h.symm
    simp [e,this]
theorem Keys.length {l:List Int} {ps:List Proc} {pr:Int→Prop} [DecidablePred pr] (h:Keys l ps pr) (hs:Sorted ps):l.length=ps.countP (fun p=> decide (pr p.st)):=by
 have hn:((ps.filter (fun p=> decide (pr p.st))).map (·.pid)).Nodup:=by
  have:((ps.filter (fun p=> decide (pr p.st))).map (·.pid)).Pairwise (· < ·):=by
   rw [List.pairwise_map]
   exact List.Pairwise.filter _ hs
  exact this.imp (fun h=> by omega)
 have hp:l.Perm ((ps.filter (fun p=> decide (pr p.st))).map (·.pid)):=by
  rw [List.perm_ext_iff_of_nodup h.1 hn]
  intro i
  rw [h.2,List.mem_map]
  constructor
  · rintro ⟨p,hp,he,hpr⟩
    exact ⟨p,List.mem_filter.2 ⟨hp,by simpa using hpr⟩,he⟩
  · rintro ⟨p,hp,he⟩
    obtain ⟨h1,h2⟩:=List.mem_filter.1 hp
    exact ⟨p,h1,he,by simpa using h2⟩
 rw [hp.length_eq,List.length_map,List.countP_eq_length_filter]
section
variable {k:Kern} {p:Proc}
theorem Inv.turns (h:Inv [] k) (hp:p ∈ k.p):k.t.l.count p.pid=if p.st=1 then 1 else 0:=by
 rw [count_nodup h.tn.1]
 simp only [h.tn.at h.tab.so hp]
theorem Inv.alarms (h:Inv [] k) (hp:p ∈ k.p):(k.s.map (·.pid)).count p.pid=if p.st=3 then 1 else 0:=by
 have ha:=h.al
 rw [List.append_nil] at ha
 rw [count_nodup ha.1]
 simp only [ha.at h.tab.so hp]
theorem Inv.owns (h:Inv [] k) (hp:p ∈ k.p):(k.h.map (·.who)).count p.pid=if p.st ≠ 4 then 1 else 0:=by
 rw [count_nodup h.hp.1]
 simp only [h.hp.at h.tab.so hp]
theorem Inv.ready (h:Inv [] k):k.p.countP (fun p=> decide (p.st=1))=k.t.l.length:=(h.tn.length h.tab.so).symm
theorem Inv.spans (h:Inv [] k):k.p.countP (fun p=> decide (p.st ≠ 4))=k.h.length:=by
 have:=h.hp.length h.tab.so
 rw [List.length_map] at this
 exact this.symm
end
theorem Good.tells {n:Nat} {k:Kern} (h:Good n k):∃ l s,(Kn.step k).trace=k.trace ++ l∧(∀ e ∈ l,e.at_=k.now∧1≤e.pid)∧(Kn.step k).cons=k.cons ++ s∧(Kn.step k).sent.length≤l.length:=by
 obtain ⟨hi,hl,k2,ht,he⟩:=h.inv.step h.life
 obtain ⟨⟨l,t1,t2,t3,t4⟩,⟨s,s1,s2⟩,_⟩:=ht
 rw [he]
 refine ⟨l,s,t1,t3,s1,?_⟩
 have:k2.sent.length≤0 + l.length:=t4
 show k2.sent.length≤_
 omega
end Kn
end Go.Proofs.YthgehdghihbiaaaGreatDoor
