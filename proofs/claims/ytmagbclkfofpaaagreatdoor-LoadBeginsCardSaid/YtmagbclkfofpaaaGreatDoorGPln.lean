/- How the plain methods keep lengths. No condition. What is right of a guest's rows, in plain Lean: the table, turns, alarms. No condition. What a guest's cycle adds to what was told, in plain Lean; cycles keep what is right. No condition. A guest's cycle keeps what is right, in plain Lean: who wakes, who goes. No condition. Scripts of a guest, in plain Lean: what stays small, and right. No condition. -/
import Derived.Test.YtmagbclkfofpaaaGreatDoorGSeg
import Derived.Test.YtmagbclkfofpaaaGreatDoorKwFresh
import Derived.Test.YtmagbclkfofpaaaGreatDoorGCp
set_option linter.unusedVariables false
set_option linter.unusedSimpArgs false
namespace Go.Proofs.YtmagbclkfofpaaaGreatDoor
open Go.RowKit KR
namespace Kn
theorem z0:(0:Int)≤0:=Int.le_refl 0
theorem z1:(0:Int)<100:=by decide
end Kn
end Go.Proofs.YtmagbclkfofpaaaGreatDoor
namespace Go.Proofs.YtmagbclkfofpaaaGreatDoor
namespace Kn
theorem put_new {l:List Proc} {p:Proc} (hb:∀ q ∈ l,q.pid<p.pid):put l p=l ++ [p]:=by
 unfold put
 rw [List.findIdx?_eq_none_iff.2 (fun x hx=> by have:=hb x hx;simp;omega),List.findIdx?_eq_none_iff.2 (fun x hx=> by have:=hb x hx;simp;omega)]
structure Told (a:Nat) (k k':Kern):Prop where
 tr:∃ l,k'.trace=k.trace ++ l∧l.length≤a∧(∀ e ∈ l,e.at_=k.now∧1≤e.pid)∧k'.sent.length≤k.sent.length + l.length
 co:∃ s,k'.cons=k.cons ++ s∧s.size≤a
 now:k'.now=k.now
 im:k'.images=k.images
 ou:k'.outs=k.outs
 ins_:k'.ins_=k.ins_
 hs:k'.hs=k.hs
 bl:k'.box.length=k.box.length
 box:∀ (i:Nat) (b':Box),k'.box[i]? =some b'→∃ (b:Box) (n:Nat),k.box[i]? =some b∧b'.l=b.l.drop n∧b'.lost=b.lost
 pid:∀ B,0≤B→(∀ q ∈ k.p,q.pid≤B)→∀ q ∈ k'.p,q.pid≤B + a
theorem ba_app_empty (s:ByteArray):s ++ (⟨#[]⟩:ByteArray)=s:=ByteArray.append_empty
theorem ba_app_assoc (a b c:ByteArray):a ++ b ++ c=a ++ (b ++ c):=ByteArray.append_assoc
theorem Told.refl (k:Kern):Told 0 k k:=⟨⟨[],(List.append_nil _).symm,Nat.le_refl _,fun e h=> (nomatch h),by simp⟩,⟨⟨#[]⟩,(ba_app_empty _).symm,Nat.le_refl _⟩,rfl,rfl,rfl,rfl,rfl,rfl,fun i b h=> ⟨b,0,h,rfl,rfl⟩,fun B _ h q hq=> by have:=h q hq;omega⟩
theorem Told.mono {a b:Nat} {k k':Kern} (h:Told a k k') (hab:a≤b):Told b k k':=by
 obtain ⟨⟨l,l1,l2,l3,l4⟩,⟨s,s1,s2⟩,h3,h4,h5,h6,h7,h8,h9,h10⟩:=h
 exact ⟨⟨l,l1,by omega,l3,l4⟩,⟨s,s1,by omega⟩,h3,h4,h5,h6,h7,h8,h9,fun B hB hq q hq'=> by have:=h10 B hB hq q hq';omega⟩
theorem Told.trans {a b:Nat} {k k1 k2:Kern} (h:Told a k k1) (g:Told b k1 k2):Told (a + b) k k2:=by
 obtain ⟨⟨l,l1,l2,l3,l4⟩,⟨s,s1,s2⟩,h3,h4,h5,h6,h7,h8,h9,h10⟩:=h
 obtain ⟨⟨m,m1,m2,m3,m4⟩,⟨r,r1,r2⟩,g3,g4,g5,g6,g7,g8,g9,g10⟩:=g
 refine ⟨⟨l ++ m,by rw [m1,l1,List.append_assoc],by rw [List.length_append];omega,fun e he=> ?_,by rw [List.length_append];omega⟩,⟨s ++ r,by rw [r1,s1,ba_app_assoc],by rw [ByteArray.size_append];omega⟩,g3.trans h3,g4.trans h4,g5.trans h5,g6.trans h6,g7.trans h7,g8.trans h8,fun i c hc=> ?_,fun B hB hq q hq'=> ?_⟩
 · rcases List.mem_append.1 he with he|he
   · exact l3 e he
   · have:=m3 e he
     rw [h3] at this
     exact this
 · obtain ⟨x,n,x1,x2,x3⟩:=g9 i c hc
   obtain ⟨y,m,y1,y2,y3⟩:=h9 i x x1
   exact ⟨y,m + n,y1,by rw [x2,y2,List.drop_drop],x3.trans y3⟩
 · have:=g10 (B + a) (by omega) (h10 B hB hq) q hq'
   omega
section
variable {D:List Int} {k k':Kern} {p p':Proc}
theorem Told.rows (e1:k'.trace=k.trace) (e2:k'.sent=k.sent) (e3:k'.cons=k.cons) (e4:k'.now=k.now) (e5:k'.images=k.images) (e6:k'.outs=k.outs) (e7:k'.ins_=k.ins_) (e8:k'.hs=k.hs) (e9:k'.box=k.box)
 (hp:∀ B,0≤B→(∀ q ∈ k.p,q.pid≤B)→∀ q ∈ k'.p,q.pid≤B):Told 0 k k':=
 ⟨⟨[],by rw [e1,List.append_nil],Nat.le_refl _,fun e h=> (nomatch h),by rw [e2];simp⟩,⟨⟨#[]⟩,by rw [e3,ba_app_empty],Nat.le_refl _⟩,e4,e5,e6,e7,e8,by rw [e9],fun i b h=> ⟨b,0,by rw [← e9];exact h,rfl,rfl⟩,fun B hB h q hq=> by have:=hp B hB h q hq;omega⟩
theorem Told.t {a:Nat} (h:Told a k k') (t:Turn):Told a k {k' with t:=t}:=⟨h.tr,h.co,h.now,h.im,h.ou,h.ins_,h.hs,h.bl,h.box,h.pid⟩
end
end Kn
end Go.Proofs.YtmagbclkfofpaaaGreatDoor
namespace Go.Proofs.YtmagbclkfofpaaaGreatDoor
namespace Kn
section
variable {D:List Int} {k k':Kern} {p p':Proc}
theorem Told.same {a:Nat} {k k1 k2:Kern} (h:Told a k1 k2) (e1:k1.trace=k.trace) (e2:k1.sent=k.sent) (e3:k1.cons=k.cons) (e4:k1.now=k.now) (e5:k1.images=k.images) (e6:k1.outs=k.outs) (e7:k1.ins_=k.ins_) (e8:k1.hs=k.hs) (e9:k1.box=k.box) (e10:k1.p=k.p):Told a k k2:=by
 obtain ⟨⟨l,l1,l2,l3,l4⟩,⟨s,s1,s2⟩,h3,h4,h5,h6,h7,h8,h9,h10⟩:=h
 exact ⟨⟨l,by rw [l1,e1],l2,by rw [← e4];exact l3,by rw [← e2];exact l4⟩,⟨s,by rw [s1,e3],s2⟩,h3.trans e4,h4.trans e5,h5.trans e6,h6.trans e7,h7.trans e8,by rw [h8,e9],by rw [← e9];exact h9,by rw [← e10];exact h10⟩
end
end Kn
end Go.Proofs.YtmagbclkfofpaaaGreatDoor
namespace Go.Proofs.YtmagbclkfofpaaaGreatDoor
namespace Kn
theorem fresh_frame (k:Kern) (p:Proc):(fresh k p).now=k.now∧(fresh k p).images=k.images∧(fresh k p).ins_=k.ins_∧(fresh k p).outs=k.outs∧(fresh k p).box=k.box∧(fresh k p).hs=k.hs∧(fresh k p).sent=k.sent∧(fresh k p).cons=k.cons∧(fresh k p).trace=k.trace:=by
 unfold fresh
 split
 · exact ⟨rfl,rfl,rfl,rfl,rfl,rfl,rfl,rfl,rfl⟩
 · split <;> exact ⟨rfl,rfl,rfl,rfl,rfl,rfl,rfl,rfl,rfl⟩
theorem boot_frame (mem:Int) (images:List ByteArray) (outs ins:List Chan) (now:Int):(boot mem images outs ins now).now=now∧(boot mem images outs ins now).images=images∧(boot mem images outs ins now).ins_=ins∧(boot mem images outs ins now).outs=outs∧(boot mem images outs ins now).box=List.replicate ins.length ⟨[],0⟩∧(boot mem images outs ins now).hs=(if mem<0 then 0 else mem)∧(boot mem images outs ins now).sent=[]∧(boot mem images outs ins now).cons=⟨#[]⟩∧(boot mem images outs ins now).trace=[]∧∀ q ∈ (boot mem images outs ins now).p,q.pid≤1:=by
 unfold boot
 dsimp only
 generalize hk:Kern.mk [] ⟨[],0⟩ [] [] (if mem<0 then 0 else mem) [] now images outs ins (List.replicate ins.length ⟨[],0⟩) ⟨#[]⟩ [] [] 0 0=k0
 have hf:k0.now=now∧k0.images=images∧k0.ins_=ins∧k0.outs=outs∧k0.box=List.replicate ins.length ⟨[],0⟩∧k0.hs=(if mem<0 then 0 else mem)∧k0.sent=[]∧k0.cons=⟨#[]⟩∧k0.trace=[]∧k0.p=[]:=by
  rw [← hk]
  exact ⟨rfl,rfl,rfl,rfl,rfl,rfl,rfl,rfl,rfl,rfl⟩
 clear hk
 obtain ⟨f1,f2,f3,f4,f5,f6,f7,f8,f9,f10⟩:=hf
 have hp:∀ p:Proc,∀ q ∈ (fresh k0 p).p,q.pid≤1:=by
  intro p q hq
  unfold fresh at hq
  rw [f10] at hq
  split at hq
  · rw [f10] at hq;cases hq
  · split at hq
    · have hpn:put [] (born p (next []))=[born p (next [])]:=put_new (fun q h=> nomatch h)
      dsimp only at hq
      rw [hpn,List.mem_singleton] at hq
      rw [hq]
      exact Int.le_refl _
    · rw [f10] at hq;cases hq
 have ff:∀ p:Proc,(fresh k0 p).now=now∧(fresh k0 p).images=images∧(fresh k0 p).ins_=ins∧(fresh k0 p).outs=outs∧(fresh k0 p).box=List.replicate ins.length ⟨[],0⟩∧(fresh k0 p).hs=(if mem<0 then 0 else mem)∧(fresh k0 p).sent=[]∧(fresh k0 p).cons=⟨#[]⟩∧(fresh k0 p).trace=[]∧∀ q ∈ (fresh k0 p).p,q.pid≤1:=by
  intro p
  obtain ⟨g1,g2,g3,g4,g5,g6,g7,g8,g9⟩:=fresh_frame k0 p
  exact ⟨g1.trans f1,g2.trans f2,g3.trans f3,g4.trans f4,g5.trans f5,g6.trans f6,g7.trans f7,g8.trans f8,g9.trans f9,hp p⟩
 by_cases h1:imageE k0 0=0
 · simp only [if_pos h1]
   by_cases h2:freshE k0=0
   · rw [if_pos h2]
     exact ff _
   · rw [if_neg h2]
     exact ff _
 · simp only [if_neg h1]
   exact ⟨f1,f2,f3,f4,f5,f6,f7,f8,f9,fun q hq=> by rw [f10] at hq;cases hq⟩
def steps (n:Int):Int:=if 60<n then 60 else n
end Kn
end Go.Proofs.YtmagbclkfofpaaaGreatDoor
