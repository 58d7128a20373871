/- A guest whose rows are right, and small, is one that the methods ask for. No condition. -/
import Derived.Test.YtkepkcjjenidgaaGreatDoorGFit
import Derived.Test.YtkepkcjjenidgaaGreatDoorGInw
set_option linter.unusedVariables false
set_option linter.unusedSimpArgs false
namespace Go.Proofs.YtkepkcjjenidgaaGreatDoor
open Go.RowKit KR
namespace Kn
structure Bd (k:Kern):Prop where
 tr:k.trace.length≤900000
 co:k.cons.size≤900000
 se:k.sent.length≤90000
 pid:∀ q ∈ k.p,q.pid≤900000
 bl:k.box.length≤1000000
 bd:∀ q ∈ k.box,∀ m ∈ q.l,m.body.size≤140737488355328
 now0:0≤k.now
 now1:k.now≤18446744073709551615
 im:k.images.length≤1000000
 hs0: -9223372036854775808≤k.hs
 hs1:k.hs≤9223372036854775807
theorem Bd.fit {D:List Int} {a:Nat} {k k':Kern} (h:Bd k) (hi:Inv D k') (ht:Told a k k') (ha:a≤1000):Fit k':=by
 have hn6:=hi.n6
 obtain ⟨l,l1,l2,_,l4⟩:=ht.tr
 obtain ⟨s,s1,s2⟩:=ht.co
 have hal:=hi.al.len
 rw [List.length_append,List.length_map] at hal
 have hhp:=hi.hp.len
 rw [List.length_map] at hhp
 have htn:=hi.tn.len
 have hpo:=hi.po.n
 refine ⟨by omega,by omega,⟨by have:=hi.tl;omega,by have:=hi.tl;omega⟩,by omega,by omega,fun q hq=> ?_,fun q hq=> ?_,by omega,by rw [ht.hs];exact h.hs0,by rw [ht.hs];exact h.hs1,fun q hq=> ?_,fun q hq=> by rw [hi.tab.mem q hq];omega,?_,?_,by rw [ht.bl];exact h.bl,fun q hq m hm=> ?_,?_,by rw [ht.now];exact h.now0,by rw [ht.now];exact h.now1,by rw [ht.im];exact h.im⟩
 · obtain ⟨i,hq⟩:=List.mem_iff_getElem?.1 hq
   obtain ⟨h1,h2,_⟩:=hi.po.ok i q hq
   have r1:=cnt_range k'.p ((i:Int) + 1) false
   have r2:=cnt_range k'.p ((i:Int) + 1) true
   omega
 · obtain ⟨i,hq⟩:=List.mem_iff_getElem?.1 hq
   have:=(hi.po.ok i q hq).2.2
   omega
 · have:=ht.pid 900000 (by decide) h.pid q hq
   omega
 · rw [l1,List.length_append]
   have:=h.tr
   omega
 · have:=h.se
   omega
 · obtain ⟨i,hq⟩:=List.mem_iff_getElem?.1 hq
   obtain ⟨b,n,b1,b2,_⟩:=ht.box i q hq
   rw [b2] at hm
   exact h.bd b (List.mem_of_getElem? b1) m (List.mem_of_mem_drop hm)
 · rw [s1,ByteArray.size_append]
   have:=h.co
   omega
theorem Bd.fresh {k:Kern} (h:Bd k):Bd {k with sent:=[],want:=0}:=⟨h.tr,h.co,Nat.zero_le _,h.pid,h.bl,h.bd,h.now0,h.now1,h.im,h.hs0,h.hs1⟩
theorem cword_fit {x:Call} (h:CWord x):CFit x:=⟨h.a.1,h.a.2,h.b.1,h.b.2,h.c.1,h.c.2⟩
theorem pword_fit {p:Proc} (h:PWord p):CFit p.want:=⟨h.wa.1,h.wa.2,h.wb.1,h.wb.2,h.wc.1,h.wc.2⟩
theorem pword_call {p:Proc} (h:PWord p):CWord p.want:=⟨h.wn,h.wa,h.wb,h.wc⟩
theorem Inv.stepPut {k:Kern} {p:Proc} (h:Inv [] k) (hp:p ∈ k.p) (h1:p.st=1):Inv [] {k with p:=put k.p (p.with_ (stepped p))}∧Told 0 k {k with p:=put k.p (p.with_ (stepped p))}∧find (put k.p (p.with_ (stepped p))) (p.with_ (stepped p)).pid=some (p.with_ (stepped p))∧CWord (p.with_ (stepped p)).from_:=by
 rcases with_words (h.tab.wd p hp) with ⟨hk,_,hcw,_⟩|hbad
 · have hi:Inv [] {k with p:=put k.p (p.with_ (stepped p))}:=h.change hp hk (by omega) rfl rfl rfl rfl rfl rfl rfl
   have hu:put k.p (p.with_ (stepped p))=Kn.upd k.p (p.with_ (stepped p)):=put_upd h.tab.so hp (show p.pid=(p.with_ (stepped p)).pid from rfl)
   have hq:p.with_ (stepped p) ∈ put k.p (p.with_ (stepped p)):=by
    rw [hu]
    exact upd_mem hp rfl
   refine ⟨hi,Told.rows rfl rfl rfl rfl rfl rfl rfl rfl rfl (fun B _ hB q hq=> ?_),hi.tab.so.find hq,hcw⟩
   have hq:q ∈ put k.p (p.with_ (stepped p)):=hq
   rw [hu] at hq
   refine pid_upd hB ?_ q hq;exact ⟨p,hp,rfl⟩
 · exact absurd (h.tab.mem p hp) hbad
theorem wake1_want (k:Kern) (pid:Int):(wake1 k pid).want=k.want:=by
 unfold wake1
 split
 · split <;> rfl
 · rfl
theorem tries_want (k:Kern) (pid:Int) (x:Call):(tries k pid x).want=k.want:=by
 unfold tries
 dsimp only
 split
 · exact (tried_frame k _ x).2.2.2.2.2.2.2.2
 · exact (tried_frame k _ x).2.2.2.2.2.2.2.2
theorem tries_t (k:Kern) (pid:Int) (x:Call):(tries k pid x).t=k.t:=by
 unfold tries
 dsimp only
 split
 · exact (tried_frame k _ x).2.1
 · exact (tried_frame k _ x).2.1
theorem wake2_want (k:Kern) (p:Proc):(wake2 k p).want=k.want:=by
 unfold wake2
 split
 · split
   · exact tries_want k p.pid p.want
   · exact tries_want k p.pid p.want
 · rfl
theorem fold_want {α:Type} (f:Kern→α→Kern) (hf:∀ k a,(f k a).want=k.want):∀ (l:List α) (k:Kern),(l.foldl f k).want=k.want
 |[],_=> rfl
 |a::l,k=> (fold_want f hf l (f k a)).trans (hf k a)
theorem wakes_want (k:Kern):(wakes k).want=k.want:=(fold_want wake2 wake2_want _ _).trans (fold_want wake1 wake1_want _ _)
end Kn
end Go.Proofs.YtkepkcjjenidgaaGreatDoor
