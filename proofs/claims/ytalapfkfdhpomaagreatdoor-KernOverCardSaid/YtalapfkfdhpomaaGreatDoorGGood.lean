/- Scripts of a guest, in plain Lean: what stays small, and right. No condition. What the laws of a guest count, in plain Lean. No condition. -/
import Derived.Test.YtalapfkfdhpomaaGreatDoorKFitB
import Derived.Test.YtalapfkfdhpomaaGreatDoorGInw
set_option linter.unusedVariables false
set_option linter.unusedSimpArgs false
namespace Go.Proofs.YtalapfkfdhpomaaGreatDoor
namespace Kn
structure Ready (k:Kern):Prop where
 inv:Inv [] k
 life:Life k
 bd:Bd k
theorem run_add (a:Nat):∀ (b:Nat) (k:Kern),run (a + b) k=run b (run a k):=by
 induction a with
 |zero=> intro b k;rw [Nat.zero_add];rfl
 |succ a ih=> intro b k;rw [Nat.add_right_comm];exact ih b (step k)
theorem run_succ (n:Nat) (k:Kern):run (n + 1) k=step (run n k):=run_add n 1 k
structure Good (n:Nat) (k:Kern):Prop where
 inv:Inv [] k
 life:Life k
 tr:k.trace.length≤14 * n
 co:k.cons.size≤14 * n
 se:k.sent.length≤14
 pid:∀ q ∈ k.p,q.pid≤14 * n + 1
 bl:k.box.length≤100
 il:k.ins_.length≤100
 im:k.images.length≤100
 bn:∀ q ∈ k.box,q.l.length≤n∧0≤q.lost∧q.lost≤n
 bd:∀ q ∈ k.box,∀ m ∈ q.l,m.body.size≤140737488355328
 now0:0≤k.now
 now1:k.now≤18446744073709551615
 hs0: -9223372036854775808≤k.hs
 hs1:k.hs≤9223372036854775807
theorem Good.ready {n:Nat} {k:Kern} (h:Good n k) (hn:n≤60000):Ready k:=
 ⟨h.inv,h.life,by have:=h.tr;omega,by have:=h.co;omega,by have:=h.se;omega,fun q hq=> by have:=h.pid q hq;omega,by have:=h.bl;omega,h.bd,h.now0,h.now1,by have:=h.im;omega,h.hs0,h.hs1⟩
theorem Good.mono {n m:Nat} {k:Kern} (h:Good n k) (hn:n≤m):Good m k:=
 ⟨h.inv,h.life,by have:=h.tr;omega,by have:=h.co;omega,h.se,fun q hq=> by have:=h.pid q hq;omega,h.bl,h.il,h.im,fun q hq=> by have:=h.bn q hq;omega,h.bd,h.now0,h.now1,h.hs0,h.hs1⟩
theorem til_range {now n:Int} (h0:0≤now) (h1:now≤18446744073709551615) (hn:0≤n):now≤til now n∧0≤til now n∧til now n≤18446744073709551615:=by
 unfold til
 omega
theorem Good.step {n:Nat} {k:Kern} (h:Good n k):Good (n + 1) (step k):=by
 obtain ⟨hi,hl,k2,ht,he⟩:=h.inv.step h.life
 obtain ⟨⟨l,t1,t2,t3,t4⟩,⟨s,s1,s2⟩,h3,h4,h5,h6,h7,h8,h9,h10⟩:=ht
 have htl:=til_range h.now0 h.now1 (by decide:(0:Int)≤1)
 have e0:=h.tr
 have e1:=h.co
 refine ⟨hi,hl,?_,?_,?_,?_,?_,?_,?_,?_,?_,?_,?_,?_,?_⟩
 · rw [he]
   show k2.trace.length≤_
   rw [t1,List.length_append]
   show k.trace.length + _≤_
   omega
 · rw [he]
   show k2.cons.size≤_
   rw [s1,ByteArray.size_append]
   show k.cons.size + _≤_
   omega
 · rw [he]
   show k2.sent.length≤_
   have:k2.sent.length≤0 + l.length:=t4
   omega
 · rw [he]
   intro q hq
   have:=h10 (14 * n + 1) (by omega) h.pid q hq
   omega
 · rw [he]
   show k2.box.length≤_
   rw [h8]
   exact h.bl
 · rw [he]
   show k2.ins_.length≤_
   rw [h6]
   exact h.il
 · rw [he]
   show k2.images.length≤_
   rw [h4]
   exact h.im
 · rw [he]
   intro q hq
   obtain ⟨i,hi⟩:=List.getElem?_of_mem hq
   obtain ⟨b,m,b1,b2,b3⟩:=h9 i q hi
   have:=h.bn b (List.mem_of_getElem? b1)
   rw [b2,b3,List.length_drop]
   omega
 · rw [he]
   intro q hq m hm
   obtain ⟨i,hi⟩:=List.getElem?_of_mem hq
   obtain ⟨b,j,b1,b2,b3⟩:=h9 i q hi
   rw [b2] at hm
   exact h.bd b (List.mem_of_getElem? b1) m (List.mem_of_mem_drop hm)
 · rw [he]
   exact htl.2.1
 · rw [he]
   exact htl.2.2
 · rw [he]
   show _≤k2.hs
   rw [h7]
   exact h.hs0
 · rw [he]
   show k2.hs≤_
   rw [h7]
   exact h.hs1
theorem Good.run {n:Nat} {k:Kern} (h:Good n k):∀ m:Nat,Good (n + m) (run m k)
 |0=> h
 |m + 1=> by
  rw [run_succ]
  exact (Good.run h m).step
theorem Good.arrive {n:Nat} {k:Kern} (h:Good n k) (j:Int) (body:ByteArray) (at_:Int) (hb:body.size≤140737488355328):Good (n + 1) (arrive k j body at_):=by
 have hi:=h.inv.arrive j body at_
 unfold Kn.arrive at hi ⊢
 split
 · exact h.mono (Nat.le_succ n)
 next hj=>
 rw [if_neg hj] at hi
 split
 · next c b hc hb2=>
   rw [hc,hb2] at hi
   dsimp only at hi
   have hbn:=h.bn b (List.mem_of_getElem? hb2)
   have hbd:=h.bd b (List.mem_of_getElem? hb2)
   refine ⟨hi,h.life,by have:=h.tr;show k.trace.length≤_;omega,by have:=h.co;show k.cons.size≤_;omega,h.se,fun q hq=> by have:=h.pid q hq;omega,by show (k.box.set _ _).length≤_;rw [List.length_set];exact h.bl,h.il,h.im,?_,?_,h.now0,h.now1,h.hs0,h.hs1⟩
   · intro q hq
     rcases List.mem_or_eq_of_mem_set hq with hq|rfl
     · have:=h.bn q hq
       omega
     · unfold bsend
       split
       · omega
       · split
         · dsimp only [List.length_singleton,List.length_cons,List.length_nil]
           omega
         · split
           · dsimp only
             rw [List.length_append,List.length_singleton]
             omega
           · dsimp only
             omega
   · intro q hq m hm
     rcases List.mem_or_eq_of_mem_set hq with hq|rfl
     · exact h.bd q hq m hm
     · unfold bsend at hm
       split at hm
       · exact hbd m hm
       · split at hm
         · rw [List.mem_singleton.1 hm]
           exact hb
         · split at hm
           · rcases List.mem_append.1 hm with hm|hm
             · exact hbd m hm
             · rw [List.mem_singleton.1 hm]
               exact hb
           · exact hbd m hm
 · exact h.mono (Nat.le_succ n)
theorem fresh_frame (k:Kern) (p:Proc):(fresh k p).now=k.now∧(fresh k p).images=k.images∧(fresh k p).ins_=k.ins_∧(fresh k p).outs=k.outs∧(fresh k p).box=k.box∧(fresh k p).hs=k.hs∧(fresh k p).sent=k.sent∧(fresh k p).cons=k.cons∧(fresh k p).trace=k.trace:=by
 unfold fresh
 split
 · exact ⟨rfl,rfl,rfl,rfl,rfl,rfl,rfl,rfl,rfl⟩
 · split <;> exact ⟨rfl,rfl,rfl,rfl,rfl,rfl,rfl,rfl,rfl⟩
theorem boot_frame (mem:Int) (images:List ByteArray) (outs ins:List Chan) (now:Int):(boot mem images outs ins now).now=now∧(boot mem images outs ins now).images=images∧(boot mem images outs ins now).ins_=ins∧(boot mem images outs ins now).outs=outs∧(boot mem images outs ins now).box=List.replicate ins.length ⟨[],0⟩∧(boot mem images outs ins now).hs=(if mem<0 then 0 else mem)∧(boot mem images outs ins now).sent=[]∧(boot mem images outs ins now).cons=⟨#[]⟩∧(boot mem images outs ins now).trace=[]∧∀ q ∈ (boot mem images outs ins now).p,q.pid≤1:=by
 unfold boot
 dsimp only
 generalize hk:Kern.mk [] ⟨[],0⟩ [] [] (if mem<0 then 0 else mem) [] now images outs ins (List.replicate ins.length ⟨[],0⟩) ⟨#[]⟩ [] [] 0 0=k0
 have hf:k0.now=now∧k0.images=images∧k0.ins_=ins∧k0.outs=outs∧k0.box=List.replicate ins.length ⟨[],0⟩∧k0.hs=(if mem<0 then 0 else mem)∧k0.sent=[]∧k0.cons=⟨#[]⟩∧k0.trace=[]∧k0.p=[]:=by
  rw [← hk]
  exact ⟨rfl,rfl,rfl,rfl,rfl,rfl,rfl,rfl,rfl,rfl⟩
 clear hk
 obtain ⟨f1,f2,f3,f4,f5,f6,f7,f8,f9,f10⟩:=hf
 have hp:∀ p:Proc,∀ q ∈ (fresh k0 p).p,q.pid≤1:=by
  intro p q hq
  unfold fresh at hq
  rw [f10] at hq
  split at hq
  · rw [f10] at hq;cases hq
  · split at hq
    · have hpn:put [] (born p (next []))=[born p (next [])]:=put_new (fun q h=> nomatch h)
      dsimp only at hq
      rw [hpn,List.mem_singleton] at hq
      rw [hq]
      exact Int.le_refl _
    · rw [f10] at hq;cases hq
 have ff:∀ p:Proc,(fresh k0 p).now=now∧(fresh k0 p).images=images∧(fresh k0 p).ins_=ins∧(fresh k0 p).outs=outs∧(fresh k0 p).box=List.replicate ins.length ⟨[],0⟩∧(fresh k0 p).hs=(if mem<0 then 0 else mem)∧(fresh k0 p).sent=[]∧(fresh k0 p).cons=⟨#[]⟩∧(fresh k0 p).trace=[]∧∀ q ∈ (fresh k0 p).p,q.pid≤1:=by
  intro p
  obtain ⟨g1,g2,g3,g4,g5,g6,g7,g8,g9⟩:=fresh_frame k0 p
  exact ⟨g1.trans f1,g2.trans f2,g3.trans f3,g4.trans f4,g5.trans f5,g6.trans f6,g7.trans f7,g8.trans f8,g9.trans f9,hp p⟩
 by_cases h1:imageE k0 0=0
 · simp only [if_pos h1]
   by_cases h2:freshE k0=0
   · rw [if_pos h2]
     exact ff _
   · rw [if_neg h2]
     exact ff _
 · simp only [if_neg h1]
   exact ⟨f1,f2,f3,f4,f5,f6,f7,f8,f9,fun q hq=> by rw [f10] at hq;cases hq⟩
theorem boot_good (mem:Int) (images:List ByteArray) (outs ins:List Chan) (now:Int) (h1:images.length≤100) (h2:ins.length≤100) (h3:0≤now) (h4:now≤18446744073709551615) (h5: -9223372036854775808≤mem) (h6:mem≤9223372036854775807):Good 0 (boot mem images outs ins now):=by
 obtain ⟨i1,i2⟩:=boot_ok mem images outs ins now
 obtain ⟨e1,e2,e3,_,e4,e5,e6,e7,e8,e9⟩:=boot_frame mem images outs ins now
 refine ⟨i1,i2,by rw [e8];exact Nat.le_refl _,by rw [e7];exact Nat.le_refl _,by rw [e6];exact Nat.zero_le _,fun q hq=> by have:=e9 q hq;omega,by rw [e4,List.length_replicate];exact h2,by rw [e3];exact h2,by rw [e2];exact h1,?_,?_,by rw [e1];exact h3,by rw [e1];exact h4,by rw [e5];split <;> omega,by rw [e5];split <;> omega⟩
 · rw [e4]
   intro q hq
   rw [List.eq_of_mem_replicate hq]
   exact ⟨Nat.le_refl _,Int.le_refl _,Int.le_refl _⟩
 · rw [e4]
   intro q hq m hm
   rw [List.eq_of_mem_replicate hq] at hm
   cases hm
structure Deed where
 kind:Int
 n:Int
 body:ByteArray
 at_:Int
def Deed.cells (a:Deed):Array Value:=#[.int .i64 a.kind,.int .i64 a.n,.string a.body,.int .u64 a.at_]
def steps (n:Int):Int:=if 60<n then 60 else n
def deed (k:Kern) (a:Deed):Kern:=if a.kind=2 then arrive k a.n a.body a.at_ else if a.kind=1 then run (steps a.n).toNat k else k
structure Guest where
 mem:Int
 images:List ByteArray
 outs:List Chan
 ins_:List Chan
 now:Int
def Guest.boot (g:Guest):Kern:=Kn.boot g.mem g.images g.outs g.ins_ g.now
structure GuestOk (g:Guest):Prop where
 im:g.images.length≤8
 ou:g.outs.length≤8
 ins_:g.ins_.length≤8
 now0:0≤g.now
 now1:g.now≤18446744073709551615
 m0: -9223372036854775808≤g.mem
 m1:g.mem≤9223372036854775807
def plays (g:Guest) (l:List Deed):Kern:=(l.take 30).foldl deed g.boot
def SmallDeeds (l:List Deed):Prop:=∀ a ∈ l,a.body.size≤140737488355328
theorem Good.deed {n:Nat} {k:Kern} (h:Good n k) (a:Deed) (ha:a.body.size≤140737488355328):Good (n + 60) (deed k a):=by
 unfold Kn.deed
 split
 · exact (h.arrive a.n a.body a.at_ ha).mono (by omega)
 · split
   · refine (h.run (steps a.n).toNat).mono ?_
     unfold steps
     split <;> omega
   · exact h.mono (by omega)
theorem deeds_good {g:Guest} (hg:GuestOk g) {l:List Deed} (hl:SmallDeeds l):∀ i:Nat,Good (60 * i) ((l.take i).foldl deed g.boot)
 |0=> boot_good g.mem g.images g.outs g.ins_ g.now (by have:=hg.im;omega) (by have:=hg.ins_;omega) hg.now0 hg.now1 hg.m0 hg.m1
 |i + 1=> by
  have ih:=deeds_good hg hl i
  cases hx:l[i]? with
  |none=>
   have:l.length≤i:=List.getElem?_eq_none_iff.1 hx
   rw [List.take_of_length_le (by omega)]
   rw [List.take_of_length_le this] at ih
   exact ih.mono (by omega)
  |some a=>
   rw [List.take_add_one,hx,Option.toList_some,List.foldl_append]
   exact (ih.deed a (hl a (List.mem_of_getElem? hx))).mono (by omega)
theorem plays_good {g:Guest} (hg:GuestOk g) {l:List Deed} (hl:SmallDeeds l):Good 1800 (plays g l):=deeds_good hg hl 30
theorem step_now {k:Kern} (h:Inv [] k) (hl:Life k):(step k).now=til k.now 1:=by
 obtain ⟨hi,hl,k2,ht,he⟩:=h.step hl
 rw [he]
theorem Good.run_now {n:Nat} {k:Kern} (h:Good n k):∀ m:Nat,k.now + m≤18446744073709551615→(Kn.run m k).now=k.now + m
 |0,_=> by show k.now=_;omega
 |m + 1,hm=> by
  have ih:=Good.run_now h m (by omega)
  have hr:=h.run m
  rw [run_succ,step_now hr.inv hr.life,ih]
  unfold til
  omega
def clk (a:Deed):Nat:=if a.kind=1 then (steps a.n).toNat else 0
theorem clk_le (a:Deed):clk a≤60:=by
 unfold clk steps
 split
 · split <;> omega
 · omega
theorem arrive_now (k:Kern) (j:Int) (body:ByteArray) (at_:Int):(arrive k j body at_).now=k.now:=by
 unfold arrive
 split
 · rfl
 · split <;> rfl
theorem Good.deed_now {n:Nat} {k:Kern} (h:Good n k) (a:Deed) (hm:k.now + clk a≤18446744073709551615):(Kn.deed k a).now=k.now + clk a:=by
 unfold Kn.deed
 unfold clk at hm ⊢
 by_cases h2:a.kind=2
 · rw [if_pos h2,arrive_now,if_neg (by omega)]
   omega
 · rw [if_neg h2]
   by_cases h1:a.kind=1
   · rw [if_pos h1] at hm ⊢
     rw [if_pos h1]
     exact h.run_now _ hm
   · rw [if_neg h1,if_neg h1]
     omega
def clks (l:List Deed):Nat:=(l.map clk).sum
theorem clks_take {l:List Deed} {i:Nat} {a:Deed} (h:l[i]? =some a):clks (l.take (i + 1))=clks (l.take i) + clk a:=by
 unfold clks
 rw [List.take_add_one,h,Option.toList_some,List.map_append,List.sum_append]
 rfl
theorem clks_le (l:List Deed):∀ i:Nat,clks (l.take i)≤60 * i
 |0=> Nat.le_refl _
 |i + 1=> by
  have ih:=clks_le l i
  cases hx:l[i]? with
  |none=>
   have:l.length≤i:=List.getElem?_eq_none_iff.1 hx
   rw [List.take_of_length_le (by omega)]
   rw [List.take_of_length_le this] at ih
   omega
  |some a=>
   rw [clks_take hx]
   have:=clk_le a
   omega
theorem deeds_now {g:Guest} (hg:GuestOk g) {l:List Deed} (hl:SmallDeeds l) (hn:g.now≤4611686018427387904):∀ i:Nat,i≤30→((l.take i).foldl deed g.boot).now=g.now + clks (l.take i)
 |0,_=> by
  show g.boot.now=g.now + ((0:Nat):Int)
  have:g.boot.now=g.now:=(boot_frame g.mem g.images g.outs g.ins_ g.now).1
  omega
 |i + 1,hi=> by
  have ih:=deeds_now hg hl hn i (by omega)
  cases hx:l[i]? with
  |none=>
   have:l.length≤i:=List.getElem?_eq_none_iff.1 hx
   rw [List.take_of_length_le (by omega)]
   rw [List.take_of_length_le this] at ih
   exact ih
  |some a=>
   have hc:=clk_le a
   have hs:=clks_le l i
   rw [clks_take hx,List.take_add_one,hx,Option.toList_some,List.foldl_append]
   show (deed _ a).now=_
   rw [(deeds_good hg hl i).deed_now a (by omega),ih]
   omega
theorem step_over {k:Kern} (h:k.gone ≠ 0):step k={k with sent:=[],want:=0,now:=til k.now 1}:=by
 unfold step
 dsimp only
 rw [if_neg h]
theorem run_over {k:Kern} (h:k.gone ≠ 0) (hn:k.now≤4611686018427387904):∀ m:Nat,m≤1000000→run (m + 1) k={k with sent:=[],want:=0,now:=k.now + (m + 1:Nat)}
 |0,_=> by
  rw [run_succ]
  show step k=_
  rw [step_over h]
  have:til k.now 1=k.now + ((0 + 1:Nat):Int):=by unfold til;omega
  rw [this]
 |m + 1,hm=> by
  rw [run_succ,run_over h hn m (by omega),step_over (show ({k with sent:=[],want:=0,now:=k.now + (m + 1:Nat)}:Kern).gone ≠ 0 from h)]
  dsimp only
  have:til (k.now + ((m + 1:Nat):Int)) 1=k.now + ((m + 1 + 1:Nat):Int):=by unfold til;omega
  rw [this]
theorem count_nodup:∀ {l:List Int},l.Nodup→∀ i:Int,l.count i=if i ∈ l then 1 else 0
 |[],_,i=> by simp
 |a::l,h,i=> by
  obtain ⟨h1,h2⟩:=List.nodup_cons.1 h
  rw [List.count_cons,count_nodup h2 i]
  by_cases e:a=i
  · subst e
    simp [h1]
  · have:¬ i=a:=fun h=> e h.symm
    simp [e,this]
theorem count_take (l:List Int) (i:Int) {n:Nat} {x:Int} (h:l[n]? =some x):(l.take (n + 1)).count i=(l.take n).count i + if x=i then 1 else 0:=by
 rw [List.take_add_one,h,Option.toList_some,List.count_append,List.count_singleton]
 by_cases hx:x=i
 · rw [if_pos hx];simp [hx]
 · rw [if_neg hx];simp [hx]
theorem count_le (l:List Int) (i:Int) (n:Nat):(l.take n).count i≤n:=Nat.le_trans List.count_le_length (by rw [List.length_take];omega)
theorem Keys.length {l:List Int} {ps:List Proc} {pr:Int→Prop} [DecidablePred pr] (h:Keys l ps pr) (hs:Sorted ps):l.length=ps.countP (fun p=> decide (pr p.st)):=by
 have hn:((ps.filter (fun p=> decide (pr p.st))).map (·.pid)).Nodup:=by
  have:((ps.filter (fun p=> decide (pr p.st))).map (·.pid)).Pairwise (· < ·):=by
   rw [List.pairwise_map]
   exact List.Pairwise.filter _ hs
  exact this.imp (fun h=> by omega)
 have hp:l.Perm ((ps.filter (fun p=> decide (pr p.st))).map (·.pid)):=by
  rw [List.perm_ext_iff_of_nodup h.1 hn]
  intro i
  rw [h.2,List.mem_map]
  constructor
  · rintro ⟨p,hp,he,hpr⟩
    exact ⟨p,List.mem_filter.2 ⟨hp,by simpa using hpr⟩,he⟩
  · rintro ⟨p,hp,he⟩
    obtain ⟨h1,h2⟩:=List.mem_filter.1 hp
    exact ⟨p,h1,he,by simpa using h2⟩
 rw [hp.length_eq,List.length_map,List.countP_eq_length_filter]
theorem countP_take {l:List Proc} (f:Proc→Bool) {n:Nat} {x:Proc} (h:l[n]? =some x):(l.take (n + 1)).countP f=(l.take n).countP f + if f x=true then 1 else 0:=by
 rw [List.take_add_one,h,Option.toList_some,List.countP_append,List.countP_singleton]
theorem countP_le (l:List Proc) (f:Proc→Bool) (n:Nat):(l.take n).countP f≤n:=Nat.le_trans List.countP_le_length (by rw [List.length_take];omega)
section
variable {k:Kern} {p:Proc}
theorem Inv.turns (h:Inv [] k) (hp:p ∈ k.p):k.t.l.count p.pid=if p.st=1 then 1 else 0:=by
 rw [count_nodup h.tn.1]
 simp only [h.tn.at h.tab.so hp]
theorem Inv.alarms (h:Inv [] k) (hp:p ∈ k.p):(k.s.map (·.pid)).count p.pid=if p.st=3 then 1 else 0:=by
 have ha:=h.al
 rw [List.append_nil] at ha
 rw [count_nodup ha.1]
 simp only [ha.at h.tab.so hp]
theorem Inv.owns (h:Inv [] k) (hp:p ∈ k.p):(k.h.map (·.who)).count p.pid=if p.st ≠ 4 then 1 else 0:=by
 rw [count_nodup h.hp.1]
 simp only [h.hp.at h.tab.so hp]
theorem Inv.ready (h:Inv [] k):k.p.countP (fun p=> decide (p.st=1))=k.t.l.length:=(h.tn.length h.tab.so).symm
theorem Inv.spans (h:Inv [] k):k.p.countP (fun p=> decide (p.st ≠ 4))=k.h.length:=by
 have:=h.hp.length h.tab.so
 rw [List.length_map] at this
 exact this.symm
end
def fdAt (p:Proc) (n:Int) (e:Bool) (f:Nat):Int:=if (getFd p f).1=n∧(getFd p f).2=e then 1 else 0
def fdsTo (p:Proc) (n:Int) (e:Bool):Nat→Int
 |0=> 0
 |f + 1=> fdsTo p n e f + fdAt p n e f
theorem fdsTo_four (p:Proc) (n:Int) (e:Bool):fdsTo p n e 4=fdn p n e:=by
 simp only [fdsTo,fdAt,getFd,fdn]
 omega
theorem fdsTo_range (p:Proc) (n:Int) (e:Bool):∀ f:Nat,0≤fdsTo p n e f∧fdsTo p n e f≤f
 |0=> ⟨Int.le_refl _,Int.le_refl _⟩
 |f + 1=> by
  have ih:=fdsTo_range p n e f
  simp only [fdsTo,fdAt]
  split <;> omega
theorem cnt_take {l:List Proc} {i:Nat} {x:Proc} (h:l[i]? =some x) (n:Int) (e:Bool):cnt (l.take (i + 1)) n e=cnt (l.take i) n e + fdn x n e:=by
 rw [List.take_add_one,h,Option.toList_some,cnt_app]
 congr 1
 rw [cnt_cons,cnt_nil]
 omega
theorem cnt_take_range (l:List Proc) (n:Int) (e:Bool) (i:Nat):0≤cnt (l.take i) n e∧cnt (l.take i) n e≤4 * i:=by
 have:=cnt_range (l.take i) n e
 rw [List.length_take] at this
 omega
theorem Good.tells {n:Nat} {k:Kern} (h:Good n k):∃ l s,(Kn.step k).trace=k.trace ++ l∧(∀ e ∈ l,e.at_=k.now∧1≤e.pid)∧(Kn.step k).cons=k.cons ++ s∧(Kn.step k).sent.length≤l.length:=by
 obtain ⟨hi,hl,k2,ht,he⟩:=h.inv.step h.life
 obtain ⟨⟨l,t1,t2,t3,t4⟩,⟨s,s1,s2⟩,_⟩:=ht
 rw [he]
 refine ⟨l,s,t1,t3,s1,?_⟩
 have:k2.sent.length≤0 + l.length:=t4
 show k2.sent.length≤_
 omega
theorem any_take {l:List Proc} (f:Proc→Bool) {n:Nat} {x:Proc} (h:l[n]? =some x):(l.take (n + 1)).any f=((l.take n).any f||f x):=by
 rw [List.take_add_one,h,Option.toList_some,List.any_append]
 simp
end Kn
end Go.Proofs.YtalapfkfdhpomaaGreatDoor
