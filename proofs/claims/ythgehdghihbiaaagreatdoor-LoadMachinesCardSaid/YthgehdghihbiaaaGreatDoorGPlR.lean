/- A plan's bytes in plain Lean: its numbers one behind the other, two bytes each; what has the same bytes is the same. No condition. Two plans that may be have the same bytes just if they are the same. No condition. The plan of bytes in plain Lean: a parser; what it takes has these bytes, what has bytes is taken as it was. No condition. The plan of bytes, taken as the program takes it: what went wrong first sticks. No condition. A builder, and a row that is a call's own, stand where all old blocks stand. No condition. One more cell behind a row that the call owns: as an equation. Conditions: the row is the call's own; Go's own limit. plan's reader: num, any, errno. Condition: bytes are as many as a string can have. One more element of several cells behind a row that the call owns; rows of numbers out of such a row. Conditions: the row is the call's own; Go's own limit. -/
import Derived.Test.YthgehdghihbiaaaGreatDoorGPl
import Derived.Lib.Builder
import Derived.Lib.UnsafeStr
import Derived.Lib.AppendStr
import Derived.Laws.AppendOwn
import Derived.OwnWalk
import Derived.Test.YthgehdghihbiaaaGreatDoorGPlE
import Derived.IntWalk
import Derived.Laws.BitsAllLaws
set_option linter.unusedVariables false
set_option maxRecDepth 100000
set_option maxHeartbeats 8000000
set_option linter.unusedSimpArgs false
namespace Go.Proofs.YthgehdghihbiaaaGreatDoor.Pl
def r3 (r:List Int):List Int:=[g r 0,g r 1,g r 2]
def r4 (r:List Int):List Int:=[g r 0,g r 1,g r 2,g r 3]
def r5 (r:List Int):List Int:=[g r 0,g r 1,g r 2,g r 3,g r 4]
def b2 (n:Int):List UInt8:=[UInt8.ofNat (n / 256).toNat,UInt8.ofNat (n % 256).toNat]
def enc (l:List Int):List UInt8:=84::80::l.flatMap b2
def nums1 (P:Plan) (k:Nat):List Int:=(P.ps.length:Int)::(P.ps.take k).flatMap r4
def nums2 (P:Plan):List Int:=nums1 P P.ps.length ++ [P.fr,(P.ws.length:Int)]
def win (l:List (List Int)):List Int:=(l.length:Int)::l.flatMap r3
def nums3 (P:Plan) (k:Nat):List Int:=nums2 P ++ (P.ws.take k).flatMap win
def nums4 (P:Plan):List Int:=nums3 P P.ws.length ++ [(P.cs.length:Int)]
def nums5 (P:Plan) (k:Nat):List Int:=nums4 P ++ (P.cs.take k).flatMap r5
def nums (P:Plan):List Int:=nums5 P P.cs.length
theorem flat_length {f:List Int→List Int} {n:Nat} (hf:∀ r,(f r).length=n) (l:List (List Int)):(l.flatMap f).length=n * l.length:=by
 induction l with
 |nil=> simp
 |cons x l ih=> rw [List.flatMap_cons,List.length_append,ih,hf,List.length_cons];rw [Nat.mul_add];omega
theorem part_facts {r:List Int} (h:partB r=true):64≤g r 0∧g r 0≤1024∧1≤g r 1∧g r 1≤3∧1≤g r 2∧g r 2≤3∧1≤g r 3∧g r 3≤3:=by
 simp only [partB,odd3,odd,Bool.and_eq_true,decide_eq_true_eq,Bool.not_eq_true',Bool.or_eq_false_iff,decide_eq_false_iff_not] at h
 omega
def small (l:List Int):Prop:=∀ x ∈ l,0≤x∧x<65536
theorem nums_eq (P:Plan):nums P=(P.ps.length:Int)::(P.ps.flatMap r4 ++ (P.fr::(P.ws.length:Int)::(P.ws.flatMap win ++ ((P.cs.length:Int)::(P.cs.flatMap r5 ++ []))))):=by
 simp [nums,nums5,nums4,nums3,nums2,nums1]
def num (most:Nat):List UInt8→Except Nat (Int × List UInt8)
 |a::b::t=> if most<a.toNat * 256 + b.toNat then .error 4 else .ok (((a.toNat * 256 + b.toNat:Nat):Int),t)
 |_=> .error 2
def anys:Nat→List UInt8→Except Nat (List Int × List UInt8)
 |0,s=> .ok ([],s)
 |n + 1,s=>
  match num 65536 s with
  | .error e=> .error e
  | .ok (x,t)=>
    match anys n t with
    | .error e=> .error e
    | .ok (l,u)=> .ok (x::l,u)
def rowsN (sz:Nat):Nat→List UInt8→Except Nat (List (List Int) × List UInt8)
 |0,s=> .ok ([],s)
 |n + 1,s=>
  match anys sz s with
  | .error e=> .error e
  | .ok (r,t)=>
    match rowsN sz n t with
    | .error e=> .error e
    | .ok (q,u)=> .ok (r::q,u)
def winsN:Nat→List UInt8→Except Nat (List (List (List Int)) × List UInt8)
 |0,s=> .ok ([],s)
 |n + 1,s=>
  match num 8 s with
  | .error e=> .error e
  | .ok (c,t)=>
    match rowsN 3 c.toNat t with
    | .error e=> .error e
    | .ok (l,u)=>
      match winsN n u with
      | .error e=> .error e
      | .ok (q,v)=> .ok (l::q,v)
def bnd {α β:Type} (x:Except Nat α) (f:α→Except Nat β):Except Nat β:=
 match x with
 | .error e=> .error e
 | .ok a=> f a
def fin5 (ps:List (List Int)) (fr:Int) (ws:List (List (List Int))):List (List Int) × List UInt8→Except Nat Plan
 |(cs,s)=> if s=[] then .ok ⟨ps,fr,ws,cs⟩ else .error 3
def fin4 (ps:List (List Int)) (fr:Int) (ws:List (List (List Int))):Int × List UInt8→Except Nat Plan
 |(nc,s)=> bnd (rowsN 5 nc.toNat s) (fin5 ps fr ws)
def fin3 (ps:List (List Int)) (fr:Int):List (List (List Int)) × List UInt8→Except Nat Plan
 |(ws,s)=> bnd (num 6 s) (fin4 ps fr ws)
def fin2 (ps:List (List Int)) (fr:Int):Int × List UInt8→Except Nat Plan
 |(nw,s)=> bnd (winsN nw.toNat s) (fin3 ps fr)
def fin1 (ps:List (List Int)):Int × List UInt8→Except Nat Plan
 |(fr,s)=> bnd (num 3 s) (fin2 ps fr)
def fin0:List (List Int) × List UInt8→Except Nat Plan
 |(ps,s)=> bnd (num 65536 s) (fin1 ps)
def parse (s:List UInt8):Except Nat Plan:=bnd (num 4 s) (fun x=> bnd (rowsN 4 x.1.toNat x.2) fin0)
def take (s:List UInt8):Except Nat Plan:=
 if s.take 2=[84,80] then bnd (parse (s.drop 2)) (fun P=> if check P=0 then .ok P else .error (check P).toNat) else .error 3
theorem num_ok {m:Nat} {s t:List UInt8} {x:Int} (h:num m s=.ok (x,t)):0≤x∧x<65536∧x≤m∧s=b2 x ++ t:=by
 match s,h with
 |a::b::u,h=>
  simp only [num] at h
  split at h
  · cases h
  · rename_i hm
    simp only [Except.ok.injEq,Prod.mk.injEq] at h
    obtain ⟨rfl,rfl⟩:=h
    have ha:=a.toNat_lt
    have hb:=b.toNat_lt
    refine ⟨by omega,by omega,by omega,?_⟩
    have e1:((((a.toNat * 256 + b.toNat:Nat):Int)) / 256).toNat=a.toNat:=by omega
    have e2:((((a.toNat * 256 + b.toNat:Nat):Int)) % 256).toNat=b.toNat:=by omega
    rw [b2,e1,e2]
    simp
theorem anys_ok:∀ (n:Nat) (s:List UInt8) (l:List Int) (u:List UInt8),anys n s=.ok (l,u)→l.length=n∧small l∧s=l.flatMap b2 ++ u
 |0,s,l,u,h=> by
  simp only [anys,Except.ok.injEq,Prod.mk.injEq] at h
  obtain ⟨rfl,rfl⟩:=h
  exact ⟨rfl,(fun x hx=> by cases hx),rfl⟩
 |n + 1,s,l,u,h=> by
  simp only [anys] at h
  split at h
  · cases h
  · rename_i x t hx
    split at h
    · cases h
    · rename_i l' u' hl
      simp only [Except.ok.injEq,Prod.mk.injEq] at h
      obtain ⟨rfl,rfl⟩:=h
      obtain ⟨a1,a2,_,a3⟩:=num_ok hx
      obtain ⟨b1,b2',b3⟩:=anys_ok n _ _ _ hl
      refine ⟨by simp [b1],?_,by rw [a3,b3];simp⟩
      intro y hy
      rcases List.mem_cons.mp hy with rfl|hy
      · exact ⟨a1,a2⟩
      · exact b2' y hy
theorem rowsN_ok {sz:Nat}:∀ (n:Nat) (s:List UInt8) (q:List (List Int)) (u:List UInt8),rowsN sz n s=.ok (q,u)→q.length=n∧(∀ r ∈ q,r.length=sz∧small r)∧s=q.flatten.flatMap b2 ++ u
 |0,s,l,u,h=> by
  simp only [rowsN,Except.ok.injEq,Prod.mk.injEq] at h
  obtain ⟨rfl,rfl⟩:=h
  exact ⟨rfl,(fun x hx=> by cases hx),rfl⟩
 |n + 1,s,l,u,h=> by
  simp only [rowsN] at h
  split at h
  · cases h
  · rename_i r t hr
    split at h
    · cases h
    · rename_i q' u' hq
      simp only [Except.ok.injEq,Prod.mk.injEq] at h
      obtain ⟨rfl,rfl⟩:=h
      obtain ⟨a1,a2,a3⟩:=anys_ok _ _ _ _ hr
      obtain ⟨b1,b2',b3⟩:=rowsN_ok n _ _ _ hq
      refine ⟨by simp [b1],?_,by rw [a3,b3];simp⟩
      intro y hy
      rcases List.mem_cons.mp hy with rfl|hy
      · exact ⟨a1,a2⟩
      · exact b2' y hy
def winF (l:List (List Int)):List Int:=(l.length:Int)::l.flatten
theorem winsN_ok:∀ (n:Nat) (s:List UInt8) (q:List (List (List Int))) (u:List UInt8),winsN n s=.ok (q,u)→q.length=n∧(∀ l ∈ q,l.length≤8∧∀ r ∈ l,r.length=3∧small r)∧s=(q.flatMap winF).flatMap b2 ++ u
 |0,s,l,u,h=> by
  simp only [winsN,Except.ok.injEq,Prod.mk.injEq] at h
  obtain ⟨rfl,rfl⟩:=h
  exact ⟨rfl,(fun x hx=> by cases hx),rfl⟩
 |n + 1,s,l,u,h=> by
  simp only [winsN] at h
  split at h
  · cases h
  · rename_i c t hc
    split at h
    · cases h
    · rename_i l1 u1 hl
      split at h
      · cases h
      · rename_i q' u' hq
        simp only [Except.ok.injEq,Prod.mk.injEq] at h
        obtain ⟨rfl,rfl⟩:=h
        obtain ⟨a1,_,a2,a3⟩:=num_ok hc
        obtain ⟨b1,b2',b3⟩:=rowsN_ok _ _ _ _ hl
        obtain ⟨c1,c2,c3⟩:=winsN_ok n _ _ _ hq
        refine ⟨by simp [c1],?_,?_⟩
        · intro y hy
          rcases List.mem_cons.mp hy with rfl|hy
          · exact ⟨by omega,b2'⟩
          · exact c2 y hy
        · have e:((l1.length:Nat):Int)=c:=by omega
          rw [a3,b3,c3]
          simp [winF,e]
theorem bnd_ok {α β:Type} {x:Except Nat α} {f:α→Except Nat β} {b:β} (h:bnd x f=.ok b):∃ a,x=.ok a∧f a=.ok b:=by
 match x,h with
 | .ok a,h=> exact ⟨a,rfl,h⟩
def Formed (P:Plan):Prop:=(∀ r ∈ P.ps,r.length=4)∧(∀ l ∈ P.ws,∀ r ∈ l,r.length=3)∧(∀ r ∈ P.cs,r.length=5)
theorem r3_of {r:List Int} (h:r.length=3):r3 r=r:=by
 match r,h with
 |[a,b,c],_=> rfl
theorem r4_of {r:List Int} (h:r.length=4):r4 r=r:=by
 match r,h with
 |[a,b,c,d],_=> rfl
theorem r5_of {r:List Int} (h:r.length=5):r5 r=r:=by
 match r,h with
 |[a,b,c,d,e],_=> rfl
theorem flat_same {f:List Int→List Int} {l:List (List Int)} (h:∀ r ∈ l,f r=r):l.flatMap f=l.flatten:=by
 rw [List.flatMap_def]
 congr 1
 exact (List.map_congr_left h).trans (List.map_id _)
theorem win_same {l:List (List Int)} (h:∀ r ∈ l,r.length=3):win l=winF l:=by rw [win,winF,flat_same (fun r hr=> r3_of (h r hr))]
theorem nums_formed {P:Plan} (h:Formed P):nums P=(P.ps.length:Int)::(P.ps.flatten ++ (P.fr::(P.ws.length:Int)::(P.ws.flatMap winF ++ ((P.cs.length:Int)::(P.cs.flatten ++ []))))):=by
 have hw:P.ws.flatMap win=P.ws.flatMap winF:=by
  rw [List.flatMap_def,List.flatMap_def]
  congr 1
  exact List.map_congr_left (fun l hl=> win_same (h.2.1 l hl))
 rw [nums_eq,flat_same (fun r hr=> r4_of (h.1 r hr)),hw,flat_same (fun r hr=> r5_of (h.2.2 r hr))]
theorem parse_ok {s:List UInt8} {P:Plan} (h:parse s=.ok P):Formed P∧s=(nums P).flatMap b2∧P.fr<65536:=by
 unfold parse at h
 obtain ⟨⟨np,s1⟩,h1,h⟩:=bnd_ok h
 obtain ⟨⟨ps,s2⟩,h2,h⟩:=bnd_ok h
 obtain ⟨⟨fr,s3⟩,h3,h⟩:=bnd_ok h
 obtain ⟨⟨nw,s4⟩,h4,h⟩:=bnd_ok h
 obtain ⟨⟨ws,s5⟩,h5,h⟩:=bnd_ok h
 obtain ⟨⟨nc,s6⟩,h6,h⟩:=bnd_ok h
 obtain ⟨⟨cs,s7⟩,h7,h⟩:=bnd_ok h
 simp only [fin5] at h
 split at h
 · rename_i hs
   injection h with h
   subst h hs
   obtain ⟨a1,_,_,a2⟩:=num_ok h1
   obtain ⟨b1,b3,b4⟩:=rowsN_ok _ _ _ _ h2
   obtain ⟨c1,c2,_,c3⟩:=num_ok h3
   obtain ⟨d1,_,_,d3⟩:=num_ok h4
   obtain ⟨e1,e2,e3⟩:=winsN_ok _ _ _ _ h5
   obtain ⟨f1,_,_,f3⟩:=num_ok h6
   obtain ⟨g1,g2,g3⟩:=rowsN_ok _ _ _ _ h7
   have hF:Formed ⟨ps,fr,ws,cs⟩:=⟨fun r hr=> (b3 r hr).1,fun l hl r hr=> ((e2 l hl).2 r hr).1,fun r hr=> (g2 r hr).1⟩
   refine ⟨hF,?_,c2⟩
   have z1:((ps.length:Nat):Int)=np:=by simp only at b1;omega
   have z2:((ws.length:Nat):Int)=nw:=by omega
   have z3:((cs.length:Nat):Int)=nc:=by omega
   simp only at b4 c3 d3 e3 f3 g3
   rw [nums_formed hF,a2,b4,c3,d3,e3,f3,g3,z1,z2,z3]
   simp
 · cases h
abbrev St:=Except Nat (List UInt8)
def numS (m:Nat):St→Int × St
 | .error c=> (0,.error c)
 | .ok l=>
   match num m l with
   | .error c=> (0,.error c)
   | .ok (x,t)=> (x,.ok t)
def anysS:Nat→St→List Int × St
 |0,st=> ([],st)
 |n + 1,st=> ((numS 65536 st).1::(anysS n (numS 65536 st).2).1,(anysS n (numS 65536 st).2).2)
def rowsS (sz:Nat):Nat→St→List (List Int) × St
 |0,st=> ([],st)
 |n + 1,st=> ((anysS sz st).1::(rowsS sz n (anysS sz st).2).1,(rowsS sz n (anysS sz st).2).2)
def winsS:Nat→St→List (List (List Int)) × St
 |0,st=> ([],st)
 |n + 1,st=> ((rowsS 3 (numS 8 st).1.toNat (numS 8 st).2).1::(winsS n (rowsS 3 (numS 8 st).1.toNat (numS 8 st).2).2).1,(winsS n (rowsS 3 (numS 8 st).1.toNat (numS 8 st).2).2).2)
theorem numS_err (m c:Nat):numS m (.error c)=(0,.error c):=rfl
theorem anysS_err (c:Nat):∀ n,(anysS n (.error c)).2=.error c
 |0=> rfl
 |n + 1=> anysS_err c n
theorem rowsS_err {sz:Nat} (c:Nat):∀ n,(rowsS sz n (.error c)).2=.error c
 |0=> rfl
 |n + 1=> by simp only [rowsS,anysS_err];exact rowsS_err c n
theorem winsS_err (c:Nat):∀ n,(winsS n (.error c)).2=.error c
 |0=> rfl
 |n + 1=> by simp only [winsS,numS_err,rowsS_err];exact winsS_err c n
def out {α:Type} (x:α × St):Except Nat (α × List UInt8):=
 match x.2 with
 | .error c=> .error c
 | .ok t=> .ok (x.1,t)
theorem num_out (m:Nat) (l:List UInt8):num m l=out (numS m (.ok l)):=by
 simp only [numS,out]
 match num m l with
 | .error c=> rfl
 | .ok (x,t)=> rfl
theorem anys_out:∀ (n:Nat) (l:List UInt8),anys n l=out (anysS n (.ok l))
 |0,l=> rfl
 |n + 1,l=> by
  simp only [anys,anysS,num_out]
  match h:numS 65536 (.ok l) with
  |(x,.error c)=>
   simp only [out,anysS_err]
  |(x,.ok t)=>
   simp only [out]
   rw [anys_out n t]
   simp only [out]
   match (anysS n (.ok t)).2 with
   | .error c=> rfl
   | .ok u=> rfl
theorem rowsN_out {sz:Nat}:∀ (n:Nat) (l:List UInt8),rowsN sz n l=out (rowsS sz n (.ok l))
 |0,l=> rfl
 |n + 1,l=> by
  simp only [rowsN,rowsS,anys_out]
  match h:anysS sz (.ok l) with
  |(x,.error c)=> simp only [out,rowsS_err]
  |(x,.ok t)=>
   simp only [out]
   rw [rowsN_out n t]
   simp only [out]
   match (rowsS sz n (.ok t)).2 with
   | .error c=> rfl
   | .ok u=> rfl
theorem winsN_out:∀ (n:Nat) (l:List UInt8),winsN n l=out (winsS n (.ok l))
 |0,l=> rfl
 |n + 1,l=> by
  simp only [winsN,winsS,num_out]
  match h:numS 8 (.ok l) with
  |(c,.error e)=> simp only [out,rowsS_err,winsS_err]
  |(c,.ok t)=>
   simp only [out]
   rw [rowsN_out c.toNat t]
   simp only [out]
   match h2:rowsS 3 c.toNat (.ok t) with
   |(q,.error e)=> simp only [winsS_err]
   |(q,.ok u)=>
    simp only
    rw [winsN_out n u]
    simp only [out]
    match (winsS n (.ok u)).2 with
    | .error c=> rfl
    | .ok u=> rfl
def ps1 (l:List UInt8):=numS 4 (.ok l)
def ps2 (l:List UInt8):=rowsS 4 (ps1 l).1.toNat (ps1 l).2
def ps3 (l:List UInt8):=numS 65536 (ps2 l).2
def ps4 (l:List UInt8):=numS 3 (ps3 l).2
def ps5 (l:List UInt8):=winsS (ps4 l).1.toNat (ps4 l).2
def ps6 (l:List UInt8):=numS 6 (ps5 l).2
def ps7 (l:List UInt8):=rowsS 5 (ps6 l).1.toNat (ps6 l).2
def planS (l:List UInt8):Plan:=⟨(ps2 l).1,(ps3 l).1,(ps5 l).1,(ps7 l).1⟩
def endS (l:List UInt8):Except Nat Plan:=
 match (ps7 l).2 with
 | .error c=> .error c
 | .ok t=> if t=[] then .ok (planS l) else .error 3
theorem bnd_out {α β:Type} (x:α × St) (f:α × List UInt8→Except Nat β):bnd (out x) f=match x.2 with| .error c=> .error c| .ok t=> f (x.1,t):=by
 obtain ⟨a,st⟩:=x
 match st with
 | .error c=> rfl
 | .ok t=> rfl
theorem parse_endS (l:List UInt8):parse l=endS l:=by
 unfold parse
 rw [num_out,bnd_out]
 unfold endS ps7
 unfold ps6 ps5 ps4 ps3 ps2
 show (match (ps1 l).2 with| .error c=> Except.error c| .ok t=> bnd (rowsN 4 (ps1 l).1.toNat t) fin0)=_
 generalize hx1:ps1 l=x1
 obtain ⟨n1,st1⟩:=x1
 match st1 with
 | .error c=> simp only [rowsS_err,numS_err,winsS_err]
 | .ok t1=>
   simp only
   rw [rowsN_out,bnd_out]
   generalize hx2:rowsS 4 n1.toNat (.ok t1)=x2
   obtain ⟨q2,st2⟩:=x2
   match st2 with
   | .error c=> simp only [rowsS_err,numS_err,winsS_err]
   | .ok t2=>
     simp only [fin0]
     rw [num_out,bnd_out]
     generalize hx3:numS 65536 (.ok t2)=x3
     obtain ⟨n3,st3⟩:=x3
     match st3 with
     | .error c=> simp only [rowsS_err,numS_err,winsS_err]
     | .ok t3=>
       simp only [fin1]
       rw [num_out,bnd_out]
       generalize hx4:numS 3 (.ok t3)=x4
       obtain ⟨n4,st4⟩:=x4
       match st4 with
       | .error c=> simp only [rowsS_err,numS_err,winsS_err]
       | .ok t4=>
         simp only [fin2]
         rw [winsN_out,bnd_out]
         generalize hx5:winsS n4.toNat (.ok t4)=x5
         obtain ⟨q5,st5⟩:=x5
         match st5 with
         | .error c=> simp only [rowsS_err,numS_err]
         | .ok t5=>
           simp only [fin3]
           rw [num_out,bnd_out]
           generalize hx6:numS 6 (.ok t5)=x6
           obtain ⟨n6,st6⟩:=x6
           match st6 with
           | .error c=> simp only [rowsS_err]
           | .ok t6=>
             simp only [fin4]
             rw [rowsN_out,bnd_out]
             generalize hx7:rowsS 5 n6.toNat (.ok t6)=x7
             obtain ⟨q7,st7⟩:=x7
             match st7 with
             | .error c=> rfl
             | .ok t7=>
               simp only [fin5,planS,ps7,ps6,ps5,ps4,ps3,ps2,hx1,hx2,hx3,hx4,hx5,hx6,hx7]
end Go.Proofs.YthgehdghihbiaaaGreatDoor.Pl
namespace Go.Proofs.YthgehdghihbiaaaGreatDoor
open Go.RowKit
theorem ownsRow_below {w W W':World} {base:Nat} {e:TypeId} {size:Nat} {v:Value} {n:Nat} {xs:List Value} (h:W.ownsRow base e size v n xs) (hb:Below W.heap.size W W'):W'.ownsRow base e size v n xs:=by
 refine ⟨h.1,?_⟩
 rcases h.2 with hn|⟨g,cap,cur,rfl,hb',hgg,rest⟩
 · exact .inl hn
 · refine .inr ⟨g,cap,cur,rfl,hb',?_,rest⟩
   rw [hb.block g (Array.getElem?_eq_some_iff.1 hgg).1]
   exact hgg
theorem builder_below {T e:TypeId} {B b:Nat} {p:Value} {bs:List Value} {W W':World} (h:Lib.BuilderAt T e B b p bs W) (hb:Below W.heap.size W W'):Lib.BuilderAt T e B b p bs W':=by
 have hlt:=h.lt
 obtain ⟨hB,v,hbk,hown,hne⟩:=h
 exact ⟨hB,v,by rw [hb.block b hlt];exact hbk,ownsRow_below (w:=W) hown hb,hne⟩
theorem byteCells_append (l m:List UInt8):Lib.byteCells (l ++ m)=Lib.byteCells l ++ Lib.byteCells m:=by simp [Lib.byteCells]
theorem byteCells_length (l:List UInt8):(Lib.byteCells l).length=l.length:=by simp [Lib.byteCells]
theorem append_one {P:Program} {base:Nat} {t ty e:TypeId} {z:Value} {bytes:Nat} (ht:P.underlying t=some (.slice e)) (hi:(P.info? e).map (fun i=> (i.zero,i.size,i.bytes))=some (some z,1,bytes)) (hzs:z.cells.size=1)
 {W:World} {v x:Value} {n:Nat} {xs:List Value} (hown:W.ownsRow base e 1 v n xs) (hx:x.oneCell'=true) (hb:(n + 1) * bytes≤140737488355328) (hn:n + 1≤140737488355328) (hbase:base≤W.heap.size):
 ∃ g cap W',(Builtin.append_ #[t,t] ty #[v,.slice (some ⟨W.heap.size,0,none⟩) 1 1]).run P (W.alloc (.cells #[x] e))=.ok (.slice (some ⟨g,0,none⟩) (n + 1) cap) W'∧W'.ownsRow base e 1 (.slice (some ⟨g,0,none⟩) (n + 1) cap) (n + 1) (xs ++ [x])∧(W.alloc (.cells #[x] e)).grownBy W' v.ownBlock∧base≤g∧g<W'.heap.size:=by
 obtain ⟨i,hi0,hz,hs,hby⟩:=info_parts hi
 obtain ⟨v',W',hrun,hown',hgrow,_⟩:=run_append_own (P:=P) (W.alloc (.cells #[x] e)) base t ty e i z 1 bytes ht hi0 hz hs hby hzs (by decide) v n xs (hown.alloc _) ⟨W.heap.size,0,none⟩ 1 1 [x] rfl
  (by
    intro j u hj
    match j,hj with
    |0,hj=>
     simp at hj
     subst hj
     simp [Addr.add])
  (by intro u hu;simp at hu;subst hu;exact hx) (by unfold maxLen;omega) hb (by simp;omega)
 have hown2:=hown'
 rcases hown'.2 with ⟨_,h0⟩|⟨g,cap,cur,rfl,hg,hgg,_⟩
 · omega
 · exact ⟨g,cap,W',hrun,hown2,hgrow,hg,(Array.getElem?_eq_some_iff.1 hgg).1⟩
theorem wpList_append_run {P:Program} (w:World) {ops:Array Oper} {rest:List Oper} {o:Oper} {a:Act} {Q:Exit→Act→World→Prop}
 (hg:o.guard=none) (s x:Operand) (t u:TypeId) (hop:o.op=Op.call {callee:=Callee.builtin Builtin.append,args:=#[s,x],argTypes:=#[t,u]})
 (sv xv:Value) (hs:a.eval s=sv) (hx:a.eval x=xv) (v':Value) (w':World) (hrun:(Builtin.append_ #[t,u] o.type #[sv,xv]).run P w=.ok v' w') (hK:wpList P ops Q rest (a.put o.dst v') w'):
 wpList P ops Q (o::rest) a w:=by
 refine wpList_plain hg fun K hK'=> ?_
 unfold Oper.wp
 simp [execOp,hop,resolve,invoke,builtin,hs,hx,hrun,Result.andThen]
 exact hK' _ _ hK
theorem ownBlock_lt {W:World} {base:Nat} {e:TypeId} {size:Nat} {v:Value} {n:Nat} {xs:List Value} (h:W.ownsRow base e size v n xs) {g:Nat} (hg:v.ownBlock=some g):base≤g∧g<W.heap.size∧∃ cur,W.heap[g]? =some (.cells cur e (0,0)):=by
 rcases h.2 with ⟨rfl,_⟩|⟨g',cap,cur,rfl,hb,hgg,_⟩
 · cases hg
 · injection hg with hg
   have hg':g'=g:=hg
   subst hg'
   exact ⟨hb,(Array.getElem?_eq_some_iff.1 hgg).1,cur,hgg⟩
theorem ownsRow_same {W W':World} {base:Nat} {e:TypeId} {size:Nat} {v:Value} {n:Nat} {xs:List Value} (h:W.ownsRow base e size v n xs) (hs:∀ g,v.ownBlock=some g→W'.heap[g]? =W.heap[g]?):W'.ownsRow base e size v n xs:=by
 refine ⟨h.1,?_⟩
 rcases h.2 with hn|⟨g,cap,cur,rfl,hb',hgg,rest⟩
 · exact .inl hn
 · exact .inr ⟨g,cap,cur,rfl,hb',by rw [hs g rfl];exact hgg,rest⟩
theorem ownsRow_mono {W:World} {base base':Nat} {e:TypeId} {size:Nat} {v:Value} {n:Nat} {xs:List Value} (h:W.ownsRow base e size v n xs) (hb:base'≤base):W.ownsRow base' e size v n xs:=by
 refine ⟨h.1,?_⟩
 rcases h.2 with hn|⟨g,cap,cur,rfl,hb',rest⟩
 · exact .inl hn
 · exact .inr ⟨g,cap,cur,rfl,Nat.le_trans hb hb',rest⟩
theorem ownsRow_slice {W:World} {base:Nat} {e:TypeId} {size:Nat} {v:Value} {n:Nat} {xs:List Value} (h:W.ownsRow base e size v n xs):∃ a c,v=.slice a n c:=by
 rcases h.2 with ⟨rfl,rfl⟩|⟨g,cap,cur,rfl,_⟩
 · exact ⟨none,0,rfl⟩
 · exact ⟨_,_,rfl⟩
end Go.Proofs.YthgehdghihbiaaaGreatDoor
namespace Go.Proofs.YthgehdghihbiaaaGreatDoor
open Go.RowKit
namespace Rdr
theorem heap_cell {W:World} {b:Nat} {cs:Array Value} {T:TypeId} {fr:Nat × Nat} (h:W.heap[b]? =some (.cells cs T fr)) (j:Nat):W.cell? ⟨b,j,none⟩=cs[j]? :=Lib.cell_of_heap h j
theorem heap_lt {W:World} {b:Nat} {o:Obj} (h:W.heap[b]? =some o):b<W.heap.size:=(Array.getElem?_eq_some_iff.1 h).1
theorem heap_new (W:World) (o:Obj):(W.alloc o).heap[W.heap.size]? =some o:=heap_alloc_new W o
theorem heap_old {W:World} {o:Obj} {k:Nat} {u:Obj} (h:W.heap[k]? =some u):(W.alloc o).heap[k]? =some u:=by
 rw [Lib.alloc_old W o k (heap_lt h)]
 exact h
theorem heap_set_ne {W:World} {b k j:Nat} {x:Value} (h:k ≠ b):(W.setCell ⟨b,j,none⟩ x).heap[k]? =W.heap[k]? :=Below.heap_setCell _ _ _ _ (fun e=> h (by simp [e]))
theorem heap_set0 {W:World} {b:Nat} {u v x:Value} {T:TypeId} (h:W.heap[b]? =some (.cells #[u,v] T (0,0))):(W.setCell ⟨b,0,none⟩ x).heap[b]? =some (.cells #[x,v] T (0,0)):=by
 simp [World.setCell,Array.getElem?_modify,h]
theorem heap_set1 {W:World} {b:Nat} {u v x:Value} {T:TypeId} (h:W.heap[b]? =some (.cells #[u,v] T (0,0))):(W.setCell ⟨b,1,none⟩ x).heap[b]? =some (.cells #[u,x] T (0,0)):=by
 simp [World.setCell,Array.getElem?_modify,h]
def ErrV (W:World) (c:Nat) (v:Value):Prop:=
 (c=2∧∃ p,v=.iface 135 (.agg #[.pointer p,Err.shortV]))∨(c=4∧∃ x:Nat,v=.iface 129 (.pointer (some ⟨x,0,none⟩))∧W.heap[x]? =some (.cells #[.int .i64 4] 131 (0,0)))
def Rd (b:Nat) (st:Pl.St) (W:World):Prop:=
 ∃ (s:ByteArray) (v:Value),s.size≤140737488355328∧W.heap[b]? =some (.cells #[.string s,v] 91 (0,0))∧
   match st with
   | .ok l=> s.data.toList=l∧v=.nilIface
   | .error c=> ErrV W c v
structure Kept (b:Nat) (W W':World):Prop where
 os:W'.os=W.os
 tape:W'.tape=W.tape
 output:W'.output=W.output
 size:W.heap.size≤W'.heap.size
 block:∀ k,k<W.heap.size→k ≠ b→W'.heap[k]? =W.heap[k]?
theorem Kept.refl (b:Nat) (W:World):Kept b W W:=⟨rfl,rfl,rfl,Nat.le_refl _,fun _ _ _=> rfl⟩
theorem Kept.trans {b:Nat} {W W1 W2:World} (h:Kept b W W1) (k:Kept b W1 W2):Kept b W W2:=
 ⟨k.os.trans h.os,k.tape.trans h.tape,k.output.trans h.output,Nat.le_trans h.size k.size,fun i h1 h2=> (k.block i (Nat.lt_of_lt_of_le h1 h.size) h2).trans (h.block i h1 h2)⟩
theorem Kept.of {b:Nat} {W W':World} (h:Below W.heap.size W W'):Kept b W W':=⟨h.os,h.tape,h.output,h.size,fun i h1 _=> h.block i h1⟩
theorem Rd.same {b:Nat} {st:Pl.St} {W W':World} (h:Rd b st W) (hb:∀ k:Nat,(k=b∨∃ c,W.heap[k]? =some (.cells c 131 (0,0)))→W'.heap[k]? =W.heap[k]?):Rd b st W':=by
 obtain ⟨s,v,hs,h0,h1⟩:=h
 refine ⟨s,v,hs,by rw [hb b (.inl rfl)];exact h0,?_⟩
 match st,h1 with
 | .ok l,h1=> exact h1
 | .error c,h1=>
   rcases h1 with h1|⟨hc,x,hv,hx⟩
   · exact .inl h1
   · exact .inr ⟨hc,x,hv,by rw [hb x (.inr ⟨_,hx⟩)];exact hx⟩
theorem Rd.below {b:Nat} {st:Pl.St} {W W':World} (h:Rd b st W) (hb:Below W.heap.size W W'):Rd b st W':=by
 have hl:b<W.heap.size:=by obtain ⟨s,v,hs,h0,_⟩:=h;exact heap_lt h0
 refine h.same (fun k hk=> hb.block k ?_)
 rcases hk with rfl|⟨c,hk⟩
 · exact hl
 · exact heap_lt hk
def Num (b m:Nat) (st:Pl.St) (W:World) (ev:Ending) (W':World):Prop:=ev=.returned (.int .i64 (Pl.numS m st).1)∧Rd b (Pl.numS m st).2 W'∧Kept b W W'
theorem i64_or_nat (a b:Nat) (ha:a<4611686018427387904) (hb:b<4611686018427387904):bits .or .i64 (a:Int) (b:Int)=((a|||b:Nat):Int):=by
 have hx:a|||b<2 ^ 62:=Nat.or_lt_two_pow (by omega) (by omega)
 show IntKind.i64.wrap ((BitVec.ofInt 64 (a:Int)|||BitVec.ofInt 64 (b:Int)).toNat:Int)=_
 rw [BitVec.toNat_or,ofInt_u64 a (by omega),ofInt_u64 b (by omega)]
 exact IntWalk.i64_in _ (by omega)
theorem or_byte (a b:Nat) (ha:a<256) (hb:b<256):bits .or .i64 ((a:Int) * 256) (b:Int)=(a:Int) * 256 + b:=by
 have h:=i64_or_nat (a * 256) b (by omega) (by omega)
 rw [nat_join 8 _ _ (by omega) (by omega)] at h
 simpa using h
theorem set_alloc {b:Nat} {W:World} {u v x:Value} {o:Obj} (h:W.heap[b]? =some (.cells #[u,v] 91 (0,0))):((W.setCell ⟨b,1,none⟩ x).alloc o).heap[b]? =some (.cells #[u,x] 91 (0,0))∧Kept b W ((W.setCell ⟨b,1,none⟩ x).alloc o)∧((W.setCell ⟨b,1,none⟩ x).alloc o).heap[W.heap.size]? =some o:=by
 have hsz:(W.setCell ⟨b,1,none⟩ x).heap.size=W.heap.size:=by simp [World.setCell]
 refine ⟨heap_old (heap_set1 h),⟨rfl,rfl,rfl,by simp [World.setCell],fun k hk hkb=> (Lib.alloc_old _ _ k (by rw [hsz];exact hk)).trans (heap_set_ne hkb)⟩,?_⟩
 have:=heap_new (W.setCell ⟨b,1,none⟩ x) o
 rw [hsz] at this
 exact this
theorem num_err (b:Nat) (c m:Nat) (W:World) (h:Rd b (.error c) W) (hm:m≤65536):Calls Tryz.prog 25 #[.pointer (some ⟨b,0,none⟩),.int .i64 (m:Int)] W (Num b m (.error c) W):=by
 have HH:=hU h
 obtain ⟨s,v,hs,h0,hv⟩:=h
 have c0:W.cell? ⟨b,0,none⟩=some (.string s):=heap_cell h0 0
 have c1:W.cell? ⟨b,1,none⟩=some v:=heap_cell h0 1
 rcases hv with ⟨_,p,rfl⟩|⟨_,x,rfl,_⟩
 all_goals
  clear h0
  go_enter Tryz.func25,Tryz.ntmps25
  repeat' (first|go_values|go_skip|go_guarded|(with_reducible refine wg ?_)|go_step|go_upon|go_quiet (fail))
  go_ret
  exact ⟨rfl,HH.out,Kept.refl _ _⟩
theorem numS_more {m:Nat} {l:List UInt8} (h:l.length<2):Pl.numS m (.ok l)=(0,.error 2):=by
 match l,h with
 |[],_=> rfl
 |[a],_=> rfl
theorem num_more (b:Nat) (s:ByteArray) (m:Nat) (W:World) (h:Rd b (.ok s.data.toList) W) (hm:m≤65536) (h2:s.size<2):Calls Tryz.prog 25 #[.pointer (some ⟨b,0,none⟩),.int .i64 (m:Int)] W (Num b m (.ok s.data.toList) W):=by
 obtain ⟨s',v,hs,h0,he,rfl⟩:=h
 obtain rfl:s'=s:=ByteArray.ext (Array.ext' he)
 have c0:W.cell? ⟨b,0,none⟩=some (.string s'):=heap_cell h0 0
 have c1:W.cell? ⟨b,1,none⟩=some .nilIface:=heap_cell h0 1
 have f1:W.frozen? ⟨b,1,none⟩=false:=Lib.frozen_of_heap h0 1
 have hl:=heap_lt h0
 have HS:=hU (numS_more (m:=m) (l:=s'.data.toList) (by rw [Array.length_toList];exact h2))
 have H0:=hU h0
 clear h0
 have h2I:(s'.size:Int)<2:=by omega
 go_enter Tryz.func25,Tryz.ntmps25
 repeat' (first|go_values|go_skip|go_guarded|(with_reducible refine wg ?_)|go_step|go_upon|go_quiet (fail))
 go_ret
 unfold Num
 rw [HS.out]
 exact ⟨rfl,⟨s',_,hs,heap_old (heap_set1 H0.out),.inl ⟨rfl,_,rfl⟩⟩,rfl,rfl,rfl,by simp [World.setCell],fun k hk hkb=> (Lib.alloc_old _ _ k (by simpa [World.setCell] using hk)).trans (heap_set_ne hkb)⟩
theorem numS_two {m:Nat} (s:ByteArray) (h:2≤s.size):Pl.numS m (.ok s.data.toList)=(if m<s[0].toNat * 256 + s[1].toNat then ((0:Int),(Except.error 4:Pl.St)) else (((s[0].toNat * 256 + s[1].toNat:Nat):Int),(Except.ok (s.extract 2 s.size).data.toList:Pl.St))):=by
 have e:(s.extract 2 s.size).data.toList=s.data.toList.drop 2:=by
  rw [ByteArray.data_extract,Array.toList_extract,List.extract_eq_take_drop,List.take_of_length_le]
  rw [List.length_drop,Array.length_toList]
  show s.data.size - 2≤s.data.size - 2
  exact Nat.le_refl _
 rw [e]
 have hl:2≤s.data.toList.length:=by rw [Array.length_toList];exact h
 have h0:s.data.toList[0]? =some s[0]:=List.getElem?_eq_getElem (by omega)
 have h1:s.data.toList[1]? =some s[1]:=List.getElem?_eq_getElem (by omega)
 generalize s[0]=a at *
 generalize s[1]=b at *
 match hm:s.data.toList,hl,h0,h1 with
 |a'::b'::t,_,h0,h1=>
  simp only [List.getElem?_cons_zero,List.getElem?_cons_succ,Option.some.injEq] at h0 h1
  subst h0 h1
  simp only [Pl.numS,Pl.num,List.drop_succ_cons,List.drop_zero]
  by_cases h3:m<a'.toNat * 256 + b'.toNat
  · rw [if_pos h3,if_pos h3]
  · rw [if_neg h3,if_neg h3]
theorem num_two (b:Nat) (s:ByteArray) (m:Nat) (W:World) (h:Rd b (.ok s.data.toList) W) (hm:m≤65536) (h2:2≤s.size):Calls Tryz.prog 25 #[.pointer (some ⟨b,0,none⟩),.int .i64 (m:Int)] W (Num b m (.ok s.data.toList) W):=by
 obtain ⟨s',v,hs,h0,he,rfl⟩:=h
 obtain rfl:s'=s:=ByteArray.ext (Array.ext' he)
 have c0:W.cell? ⟨b,0,none⟩=some (.string s'):=heap_cell h0 0
 have c1:W.cell? ⟨b,1,none⟩=some .nilIface:=heap_cell h0 1
 have f1:W.frozen? ⟨b,1,none⟩=false:=Lib.frozen_of_heap h0 1
 have f0:W.frozen? ⟨b,0,none⟩=false:=Lib.frozen_of_heap h0 0
 have hl:=heap_lt h0
 have HS:=hU (numS_two (m:=m) s' h2)
 have H0:=hU h0
 clear h0 he
 have h2I:¬ (s'.size:Int)<2:=by omega
 have l0:0<s'.size:=by omega
 have l1:1<s'.size:=by omega
 have l1I:(1:Int)<(s'.size:Int):=by omega
 have l2I:(2:Int)≤(s'.size:Int):=by omega
 have x0:(s'[0].toNat:Int)≤255:=by have:=s'[0].toNat_lt;omega
 have x1:(s'[1].toNat:Int)≤255:=by have:=s'[1].toNat_lt;omega
 have hor:=or_byte s'[0].toNat s'[1].toNat (by omega) (by omega)
 by_cases hbig:m<s'[0].toNat * 256 + s'[1].toNat
 · have hbI:(m:Int)<(s'[0].toNat:Int) * 256 + (s'[1].toNat:Int):=by omega
   have HS2:=hU (HS.out.trans (if_pos hbig))
   clear HS
   go_enter Tryz.func25,Tryz.ntmps25
   repeat' (first|go_values|go_skip|go_guarded|(with_reducible refine wg ?_)|go_step|go_upon|go_quiet (fail))
   go_ret
   have h1:((W.drewN nq).setCell ⟨b,0,none⟩ (.string (s'.extract 2 s'.size))).heap[b]? =some (.cells #[.string (s'.extract 2 s'.size),.nilIface] 91 (0,0)):=heap_set0 (W:=W.drewN nq) H0.out
   obtain ⟨h2,h3,h4⟩:=set_alloc (x:=.iface 129 (.pointer (some ⟨W.heap.size,0,none⟩))) (o:=.cells #[.int .i64 4] 131) h1
   have hsz:((W.drewN nq).setCell ⟨b,0,none⟩ (.string (s'.extract 2 s'.size))).heap.size=W.heap.size:=by simp [World.setCell]
   rw [hsz] at h4
   have hK0:Kept b W ((W.drewN nq).setCell ⟨b,0,none⟩ (.string (s'.extract 2 s'.size))):=⟨rfl,rfl,rfl,by simp [World.setCell],fun k hk hkb=> heap_set_ne (W:=W.drewN nq) hkb⟩
   unfold Num
   rw [HS2.out]
   exact ⟨rfl,⟨_,_,by rw [ByteArray.size_extract];omega,h2,.inr ⟨rfl,_,rfl,h4⟩⟩,hK0.trans h3⟩
 · have hbI:¬ (m:Int)<(s'[0].toNat:Int) * 256 + (s'[1].toNat:Int):=by omega
   have HS2:=hU (HS.out.trans (if_neg hbig))
   clear HS
   go_enter Tryz.func25,Tryz.ntmps25
   repeat' (first|go_values|go_skip|go_guarded|(with_reducible refine wg ?_)|go_step|go_upon|go_quiet (fail))
   go_ret
   have h1:((W.drewN nq).setCell ⟨b,0,none⟩ (.string (s'.extract 2 s'.size))).heap[b]? =some (.cells #[.string (s'.extract 2 s'.size),.nilIface] 91 (0,0)):=heap_set0 (W:=W.drewN nq) H0.out
   unfold Num
   rw [HS2.out]
   exact ⟨by congr 2,⟨_,_,by rw [ByteArray.size_extract];omega,h1,rfl,rfl⟩,⟨rfl,rfl,rfl,by simp [World.setCell],fun k hk hkb=> heap_set_ne (W:=W.drewN nq) hkb⟩⟩
theorem num (b m:Nat) (st:Pl.St) (W:World) (h:Rd b st W) (hm:m≤65536):Calls Tryz.prog 25 #[.pointer (some ⟨b,0,none⟩),.int .i64 (m:Int)] W (Num b m st W):=by
 match st,h with
 | .error c,h=> exact num_err b c m W h hm
 | .ok l,h=>
   obtain ⟨s,v,hs,h0,he,hv⟩:=id h
   subst he
   by_cases h2:s.size<2
   · exact num_more b s m W h hm h2
   · exact num_two b s m W h hm (by omega)
theorem any (b:Nat) (st:Pl.St) (W:World) (h:Rd b st W):Calls Tryz.prog 26 #[.pointer (some ⟨b,0,none⟩)] W (Num b 65536 st W):=by
 have HN:=hU (num b 65536 st W h (Nat.le_refl _))
 go_enter Tryz.func26,Tryz.ntmps26
 repeat' (first|go_values|go_skip|go_guarded|(with_reducible refine wg ?_)|go_step|go_upon)
 refine HN.out.mono ?_
 rintro ev w1 ⟨rfl,h1,h2⟩
 dsimp only
 repeat' (first|go_values|go_skip|go_guarded|(with_reducible refine wg ?_)|go_step|go_upon)
 go_ret
 exact ⟨rfl,h1,h2⟩
def errnoV:Pl.St→Int
 | .error c=> c
 | .ok l=> if l=[] then 0 else 3
theorem toList_nil {s:ByteArray} (h:s.data.toList=[]):s.toList=[]:=by rw [ByteArray.toList_eq];exact h
theorem toList_ne_nil {s:ByteArray} (h:¬ s.data.toList=[]):¬ s.toList=[]:=by rw [ByteArray.toList_eq];exact h
theorem errno (b:Nat) (st:Pl.St) (W:World) (h:Rd b st W) (hg:W.cell? ⟨0,0,none⟩=some (.iface 188 (.agg #[Err.hE]))):Calls Tryz.prog 27 #[.pointer (some ⟨b,0,none⟩)] W (Gives (.int .i64 (errnoV st)) W):=by
 have hl0:0<W.heap.size:=by
  rcases Nat.eq_zero_or_pos W.heap.size with h0|h'
  · simp [World.cell?,h0] at hg
  · exact h'
 obtain ⟨s,v,hs,h0,hv⟩:=h
 have c0:W.cell? ⟨b,0,none⟩=some (.string s):=heap_cell h0 0
 have c1:W.cell? ⟨b,1,none⟩=some v:=heap_cell h0 1
 have hl:=heap_lt h0
 match st,hv with
 | .error c,hv=>
   rcases hv with ⟨rfl,p,rfl⟩|⟨rfl,x,rfl,hx⟩
   · clear h0
     go_enter Tryz.func27,Tryz.ntmps27
     repeat' (first|go_values|go_skip|go_guarded|(with_reducible refine wg ?_)|go_step|go_upon|go_quiet (fail))
     refine (Err.Is_at p _).mono ?_
     rintro ev w1 ⟨rfl,hb1⟩
     dsimp only
     repeat' (first|go_values|go_skip|go_guarded|(with_reducible refine wg ?_)|go_step|go_upon|go_quiet (fail))
     go_ret
     exact gives_int rfl bel
   · have cx:W.cell? ⟨x,0,none⟩=some (.int .i64 4):=heap_cell hx 0
     have hxl:=heap_lt hx
     have HG:=hU hg
     clear h0 hx hg
     go_enter Tryz.func27,Tryz.ntmps27
     repeat' (first|go_values|go_skip|go_guarded|(with_reducible refine wg ?_)|go_step|go_upon|go_quiet (fail))
     refine (Err.Is_bad _ _).mono ?_
     rintro ev w1 ⟨rfl,rfl⟩
     dsimp only
     repeat' (first|go_values|go_skip|go_guarded|(with_reducible refine wg ?_)|go_step|go_upon|go_quiet (fail))
     refine (Err.As_bad ⟨x,0,none⟩ W.heap.size (.pointer none) _ (by go_simp;exact HG.out) (by go_simp) (by go_simp)).mono ?_
     rintro ev w2 ⟨rfl,hc2,hb2⟩
     have c2:w2.cell? ⟨x,0,none⟩=some (.int .i64 4):=(hb2.cell (p:=⟨x,0,none⟩) hxl).trans (by go_simp)
     have hbel:Below W.heap.size W w2:=((Below.refl _ _).alloc (Nat.le_refl _) _).trans hb2
     dsimp only
     repeat' (first|go_values|go_skip|go_guarded|(with_reducible refine wg ?_)|go_step|go_upon|go_quiet (fail))
     go_ret
     exact gives_int rfl bel
 | .ok l,⟨he,hv⟩=>
   subst he hv
   clear h0
   by_cases hn:s.data.toList=[]
   · have hn':=toList_nil hn
     have hn2:(!s.toList.isEmpty)=false:=by rw [hn'];rfl
     have HE:=hU (show (0:Int)=errnoV (.ok s.data.toList) by rw [hn];rfl)
     clear hn
     go_enter Tryz.func27,Tryz.ntmps27
     repeat' (first|go_values|go_skip|go_guarded|(with_reducible refine wg ?_)|go_step|go_upon|go_quiet (fail))
     refine (Err.Is_nil _ _ _ _ rfl).mono ?_
     rintro ev w1 ⟨rfl,rfl⟩
     dsimp only
     repeat' (first|go_values|go_skip|go_guarded|(with_reducible refine wg ?_)|go_step|go_upon|go_quiet (fail))
     refine (Err.as_nil _ _).mono ?_
     rintro ev w1 ⟨rfl,rfl⟩
     dsimp only
     repeat' (first|go_values|go_skip|go_guarded|(with_reducible refine wg ?_)|go_step|go_upon|go_quiet (fail))
     go_ret
     exact gives_int HE.out bel
   · have hn':=toList_ne_nil hn
     have hn2:(!s.toList.isEmpty)=true:=by simpa using hn'
     have HE:=hU (show (3:Int)=errnoV (.ok s.data.toList) by simp only [errnoV,if_neg hn])
     clear hn
     go_enter Tryz.func27,Tryz.ntmps27
     repeat' (first|go_values|go_skip|go_guarded|(with_reducible refine wg ?_)|go_step|go_upon|go_quiet (fail))
     refine (Err.Is_nil _ _ _ _ rfl).mono ?_
     rintro ev w1 ⟨rfl,rfl⟩
     dsimp only
     repeat' (first|go_values|go_skip|go_guarded|(with_reducible refine wg ?_)|go_step|go_upon|go_quiet (fail))
     refine (Err.as_nil _ _).mono ?_
     rintro ev w1 ⟨rfl,rfl⟩
     dsimp only
     repeat' (first|go_values|go_skip|go_guarded|(with_reducible refine wg ?_)|go_step|go_upon|go_quiet (fail))
     go_ret
     exact gives_int HE.out bel
end Rdr
end Go.Proofs.YthgehdghihbiaaaGreatDoor
namespace Go.Proofs.YthgehdghihbiaaaGreatDoor
open Go.RowKit
theorem append_cells {P:Program} {base:Nat} {t ty e:TypeId} {z:Value} {size bytes:Nat} (ht:P.underlying t=some (.slice e)) (hi:(P.info? e).map (fun i=> (i.zero,i.size,i.bytes))=some (some z,size,bytes)) (hzs:z.cells.size=size) (hs0:0<size)
 {W:World} {v:Value} {x:Array Value} {n:Nat} {xs:List Value} (hown:W.ownsRow base e size v n xs) (hx:∀ u ∈ x.toList,u.oneCell'=true) (hxs:x.size=size) (hb:(n + 1) * bytes≤140737488355328) (hn:n + 1≤140737488355328) (hbase:base≤W.heap.size):
 ∃ g cap W',(Builtin.append_ #[t,t] ty #[v,.slice (some ⟨W.heap.size,0,none⟩) 1 1]).run P (W.alloc (.cells x e))=.ok (.slice (some ⟨g,0,none⟩) (n + 1) cap) W'∧W'.ownsRow base e size (.slice (some ⟨g,0,none⟩) (n + 1) cap) (n + 1) (xs ++ x.toList)∧(W.alloc (.cells x e)).grownBy W' v.ownBlock∧base≤g∧g<W'.heap.size:=by
 obtain ⟨i,hi0,hz,hs,hby⟩:=info_parts hi
 obtain ⟨v',W',hrun,hown',hgrow,_⟩:=run_append_own (P:=P) (W.alloc (.cells x e)) base t ty e i z size bytes ht hi0 hz hs hby hzs hs0 v n xs (hown.alloc _) ⟨W.heap.size,0,none⟩ 1 1 x.toList (by rw [Array.length_toList,hxs,Nat.one_mul])
  (by
    intro j u hj
    have hadd:(⟨W.heap.size,0,none⟩:Addr).add j=⟨W.heap.size,j,none⟩:=by
     unfold Addr.add
     split
     · rename_i hz
       simp only [Addr.mk.injEq,and_true,true_and]
       omega
     · simp only [Addr.mk.injEq,and_true,true_and]
       omega
    rw [hadd,Lib.cell_of_heap (heap_alloc_new W _)]
    rw [← Array.getElem?_toList]
    exact hj)
  hx (by unfold maxLen;omega) hb (by simp;omega)
 have hown2:=hown'
 rcases hown'.2 with ⟨_,h0⟩|⟨g,cap,cur,rfl,hg,hgg,_⟩
 · omega
 · exact ⟨g,cap,W',hrun,hown2,hgrow,hg,(Array.getElem?_eq_some_iff.1 hgg).1⟩
def intCells (r:List Int):List Value:=r.map (Value.int .i64)
theorem flat_get {sz:Nat}:∀ (l:List (List Int)) (i j:Nat),(∀ r ∈ l,r.length=sz)→i<l.length→j<sz→(l.flatMap intCells)[i * sz + j]? =some (.int .i64 (Pl.g (l.getD i []) j))
 |[],i,j,_,hi,_=> absurd hi (Nat.not_lt_zero _)
 |r::l,0,j,h,_,hj=> by
  have hr:=h r (by simp)
  rw [List.flatMap_cons,Nat.zero_mul,Nat.zero_add,List.getElem?_append_left (by simp [intCells];omega)]
  have hj':j<r.length:=by omega
  simp [intCells,Pl.g,List.getElem?_eq_getElem hj']
 |r::l,i + 1,j,h,hi,hj=> by
  have hr:=h r (by simp)
  have ih:=flat_get l i j (fun x hx=> h x (by simp [hx])) (by simpa using hi) hj
  have hlen:(intCells r).length=sz:=by simp [intCells,hr]
  rw [List.flatMap_cons,List.getElem?_append_right (by rw [hlen,Nat.succ_mul];omega),hlen,show (i + 1) * sz + j - sz=i * sz + j by rw [Nat.succ_mul];omega,ih,List.getD_cons_succ]
theorem rowsAt_own {W:World} {B sz:Nat} {T:TypeId} {v:Value} {n:Nat} {l:List (List Int)} (h:W.ownsRow B T sz v n (l.flatMap intCells)) (hl:∀ r ∈ l,r.length=sz) (hn:l.length=n) (hmax:n≤9223372036854775807):RowsAt W sz v l:=by
 subst hn
 rcases h.2 with ⟨rfl,h0⟩|⟨g,cap,cur,rfl,hb,hg,hnc,hm,hc,ht⟩
 · exact ⟨none,0,by rw [h0],hmax,.inl (List.length_eq_zero_iff.mp h0)⟩
 · refine ⟨_,_,rfl,hmax,.inr ⟨g,0,rfl,(Array.getElem?_eq_some_iff.1 hg).1,fun i j hi hj=> ?_⟩⟩
   rw [Lib.cell_of_heap hg,Nat.zero_add,← flat_get l i j hl hi hj,← ht]
   have hlt:i * sz + j<l.length * sz:=by
    have:(i + 1) * sz≤l.length * sz:=Nat.mul_le_mul_right _ hi
    rw [Nat.succ_mul] at this
    omega
   rw [List.getElem?_take_of_lt hlt,Array.getElem?_toList]
end Go.Proofs.YthgehdghihbiaaaGreatDoor
