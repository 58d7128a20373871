/- What the law is asked of, as it comes in. Conditions: as told. -/
import Derived.Test.YtfncknignkndiaaGreatDoorGTsF
set_option linter.unusedVariables false
set_option maxRecDepth 100000
set_option maxHeartbeats 8000000
set_option linter.unusedSimpArgs false
namespace Go.Proofs.YtfncknignkndiaaGreatDoor
open Go.ChangeShapes Go.WideShapes Go.ChangeAt Go.RowKit Go.Joins Go.Deep KR Kn
namespace Hy
theorem i64_bF {x:Int} (h:(Lit.int .i64 x).wf=true): -9223372036854775808≤x∧x≤9223372036854775807:=by
 have hmin:IntKind.i64.min= -9223372036854775808:=rfl;have hmax:IntKind.i64.max=9223372036854775807:=rfl;simp only [Lit.wf,Bool.and_eq_true,decide_eq_true_eq] at h;omega
section
variable {H:Type} {enc:TypeId × Value→H} {w:World} {base b:Nat} {sp:Nat→Bool} {hd:Bool} {r:Reach}
theorem open_inTopFair {v:Value} {d:DataW H} {p:List MemPlace} (hv:Value.okWide Tryz.prog w r base 24 v) (h:DataW.Trod enc Tryz.prog w b sp hd 24 v d p):
 ∃ mem iv images n pid,v=.agg #[.int .i64 mem,iv,.int .i64 n,.int .i64 pid]∧Rd 1 strCells w iv images∧ -9223372036854775808≤mem∧mem≤9223372036854775807:=by
 obtain ⟨cs,rfl,hsz⟩:=okWide_struct Tryz.underlying24 hv;rw [show Tryz.prog.cellsOf 24=4 by kernel_rfl] at hsz;obtain ⟨fuel,hf⟩:=h;obtain ⟨l0⟩:=cs;match l0,hsz with
 |[c0,c1,c2,c3],_=>
  obtain ⟨xs,n,_,hx2,_,hlen,hge⟩:=DataW.trod_struct Tryz.underlying24 hf;have hx:xs.length=4:=hlen;have g0:DataW.trod enc Tryz.prog w b sp hd n 3 (([c0,c1,c2,c3].drop 0).take (Tryz.prog.cellsOf 3))=xs[0]? :=hge 0 _ rfl;rw [List.getElem?_eq_getElem (by omega),show Tryz.prog.cellsOf 3=1 by kernel_rfl] at g0;have e0:DataW.trod enc Tryz.prog w b sp hd n 3 [c0]=some (xs[0]'(by omega)):=g0;have g1:DataW.trod enc Tryz.prog w b sp hd n 22 (([c0,c1,c2,c3].drop 1).take (Tryz.prog.cellsOf 22))=xs[1]? :=hge 1 _ rfl;rw [List.getElem?_eq_getElem (by omega),show Tryz.prog.cellsOf 22=1 by kernel_rfl] at g1;have e1:DataW.trod enc Tryz.prog w b sp hd n 22 [c1]=some (xs[1]'(by omega)):=g1;have g2:DataW.trod enc Tryz.prog w b sp hd n 3 (([c0,c1,c2,c3].drop 2).take (Tryz.prog.cellsOf 3))=xs[2]? :=hge 2 _ rfl;rw [List.getElem?_eq_getElem (by omega),show Tryz.prog.cellsOf 3=1 by kernel_rfl] at g2;have e2:DataW.trod enc Tryz.prog w b sp hd n 3 [c2]=some (xs[2]'(by omega)):=g2;have g3:DataW.trod enc Tryz.prog w b sp hd n 3 (([c0,c1,c2,c3].drop 3).take (Tryz.prog.cellsOf 3))=xs[3]? :=hge 3 _ rfl;rw [List.getElem?_eq_getElem (by omega),show Tryz.prog.cellsOf 3=1 by kernel_rfl] at g3;have e3:DataW.trod enc Tryz.prog w b sp hd n 3 [c3]=some (xs[3]'(by omega)):=g3;obtain ⟨mem,rfl,w0⟩:=fI e0;obtain ⟨iv,images,hiv,him⟩:=open_strs e1;obtain ⟨n,rfl,_⟩:=fI e2;obtain ⟨pid,rfl,_⟩:=fI e3;obtain rfl:=(List.cons.inj hiv).1;obtain ⟨b0,b1⟩:=i64_bF w0;exact ⟨mem,_,images,n,pid,rfl,him,b0,b1⟩
end
end Hy
end Go.Proofs.YtfncknignkndiaaGreatDoor
namespace Go.Proofs.YtfncknignkndiaaGreatDoor
namespace Kn
def Far (t:jM) (pid n:Int):Prop:=∀ i:Nat,t.l[i]? =some pid→i=0∨5 * ((i:Int) - 1) + t.left≤n
def LeftOk (t:jM):Prop:=t.l=[]∨1≤t.left
theorem LeftOk.add {t:jM} (h:LeftOk t) (q:Int):LeftOk (iE t q):=by
 unfold iE;split
 · exact h
 · refine .inr ?_;show 1≤(if t.l=[] then 5 else t.left:Int)
   split
   · decide
   · next hn=> exact h.resolve_left hn
theorem leftYield {t:jM}:LeftOk (jE t):=by
 obtain ⟨l,left⟩:=t;cases l with
 |nil=> exact .inl rfl
 |cons x r=> exact .inr (show (1:Int)≤5 by decide)
theorem LeftOk.spend {t:jM} (h:LeftOk t):LeftOk (gO t):=by
 unfold gO;split
 · exact h
 · split
   · exact leftYield
   · exact .inr (show 1≤t.left - 1 by omega)
theorem LeftOk.drop {t:jM} (h:LeftOk t) (v:Int):LeftOk (eZ t v):=by
 unfold eZ;split
 · next hc=>
   refine .inr ?_;show 1≤(if t.l.head? =some v then 5 else t.left:Int)
   split
   · decide
   · rcases h with h|h
     · rw [h] at hc;simp at hc
     · exact h
 · exact h
theorem far_next {x:Int} {r tail:List Int} {left pid n:Int} (hf:Far ⟨x::r,left⟩ pid n) (hl:1≤left) (ht:∀ y ∈ tail,y ≠ pid):Far ⟨r ++ tail,5⟩ pid (n - 1):=by
 intro i hi;have hi:(r ++ tail)[i]? =some pid:=hi;show i=0∨5 * ((i:Int) - 1) + 5≤n - 1
 by_cases hir:i<r.length
 · rw [List.getElem?_append_left hir] at hi;have h2:(x::r)[i + 1]? =some pid:=by rw [List.getElem?_cons_succ];exact hi
   rcases hf (i + 1) h2 with h|h
   · omega
   · have h:5 * (((i + 1:Nat):Int) - 1) + left≤n:=h;right
     omega
 · rw [List.getElem?_append_right (by omega)] at hi;exact absurd rfl (ht pid (List.mem_of_getElem? hi))
theorem far_yield {t:jM} {pid n:Int} (hf:Far t pid n) (hl:LeftOk t) (hh:t.l.head? ≠ some pid):Far (jE t) pid (n - 1):=by
 obtain ⟨l,left⟩:=t;cases l with
 |nil=> intro i hi;cases hi
 |cons x r=>
  have h1:1≤left:=by
   rcases hl with h|h
   · cases h
   · exact h
  exact far_next (tail:=[x]) hf h1 (fun y hy e=> by
   rw [List.mem_singleton] at hy;subst hy;subst e;exact hh rfl)
theorem far_spend {t:jM} {pid n:Int} (hf:Far t pid n) (hl:LeftOk t) (hh:t.l.head? ≠ some pid):Far (gO t) pid (n - 1):=by
 unfold gO;split
 · next h0=>
   intro i hi;rw [h0] at hi;cases hi
 · next h0=>
   split
   · have e:jE ⟨t.l,t.left - 1⟩=jE t:=by
      obtain ⟨l,left⟩:=t;cases l with
      |nil=> exact absurd rfl h0
      |cons x r=> rfl
     rw [e];exact far_yield hf hl hh
   · intro i hi;rcases hf i hi with h|h
     · exact .inl h
     · right
       show 5 * ((i:Int) - 1) + (t.left - 1)≤n - 1
       omega
theorem filter_head {x:Int} {r:List Int} (hn:(x::r).Nodup):(x::r).filter (fun y=> !(y==x))=r:=by
 rw [List.filter_cons]
 have:(!(x==x))=false:=by simp
 rw [this];refine (List.filter_eq_self.2 fun y hy=> ?_)
 have:y ≠ x:=fun e=> (List.nodup_cons.1 hn).1 (e ▸ hy)
 simp [this]
theorem far_head {t:jM} {pid n v:Int} (hf:Far t pid n) (hl:LeftOk t) (hn:t.l.Nodup) (hv:t.l.head? =some v):Far (eZ t v) pid (n - 1):=by
 obtain ⟨l,left⟩:=t;cases l with
 |nil=> cases hv
 |cons x r=>
  obtain rfl:x=v:=Option.some.inj hv
  have h1:1≤left:=by
   rcases hl with h|h
   · cases h
   · exact h
  have e:eZ ⟨x::r,left⟩ x=⟨r ++ [],5⟩:=by
   unfold eZ;dsimp only;rw [if_pos (by simp),filter_head hn,if_pos (show (x::r).head? =some x from rfl),List.append_nil]
  rw [e];exact far_next (tail:=[]) hf h1 (fun y hy=> by cases hy)
theorem filter_at {f:Int→Bool} {a:Int}:∀ {l:List Int} {i:Nat},(l.filter f)[i]? =some a→∃ j,i≤j∧l[j]? =some a
 |[],i,h=> by cases h
 |x::l,i,h=> by
  rw [List.filter_cons] at h;split at h
  · cases i with
    |zero=> exact ⟨0,Nat.le_refl _,h⟩
    |succ i=>
     rw [List.getElem?_cons_succ] at h;obtain ⟨j,hj,hx⟩:=filter_at h;exact ⟨j + 1,by omega,by rw [List.getElem?_cons_succ];exact hx⟩
  · obtain ⟨j,hj,hx⟩:=filter_at h;exact ⟨j + 1,by omega,by rw [List.getElem?_cons_succ];exact hx⟩
theorem far_drop {t:jM} {pid n v:Int} (hf:Far t pid n) (hv:t.l.head? ≠ some v):Far (eZ t v) pid n∧(eZ t v).l.head? =t.l.head? :=by
 unfold eZ;split
 · refine ⟨fun i hi=> ?_,?_⟩
   · obtain ⟨j,hj,hx⟩:=filter_at hi;rcases hf j hx with h|h
     · left;omega
     · by_cases h0:i=0
       · exact .inl h0
       · right
         show 5 * ((i:Int) - 1) + t.left≤n
         omega
   · show (t.l.filter _).head? =_
     cases hl:t.l with
     |nil=> rfl
     |cons x r=>
      rw [hl] at hv
      have:x ≠ v:=fun e=> hv (by rw [e];rfl)
      rw [List.filter_cons,if_pos (by simp [this])];rfl
 · exact ⟨hf,rfl⟩
structure Wt (t:jM) (pid n:Int):Prop where
 left:LeftOk t
 mem:pid ∈ t.l
 hd:t.l.head? ≠ some pid
 far:Far t pid n
theorem Wt.add {t:jM} {pid n:Int} (h:Wt t pid n) (v:Int):Wt (iE t v) pid n:=by
 refine ⟨h.left.add v,?_,?_,?_⟩
 · unfold iE;split
   · exact h.mem
   · exact List.mem_append_left _ h.mem
 · unfold iE;split
   · exact h.hd
   · show (t.l ++ [v]).head? ≠ _
     cases hl:t.l with
     |nil=> have:=h.mem;rw [hl] at this;cases this
     |cons x r=> have:=h.hd;rw [hl] at this;exact this
 · unfold iE;split
   · exact h.far
   · next hc=>
     have h0:t.l ≠ []:=fun e=> by have:=h.mem;rw [e] at this;cases this
     rw [if_neg h0];intro i hi;have hi:(t.l ++ [v])[i]? =some pid:=hi;by_cases hil:i<t.l.length
     · rw [List.getElem?_append_left hil] at hi;exact h.far i hi
     · rw [List.getElem?_append_right (by omega)] at hi;have:=List.mem_of_getElem? hi
       rw [List.mem_singleton] at this;subst this;exact absurd (List.contains_iff_mem.2 h.mem) hc
def Goe (t t':jM):Prop:=(t.l=[]∧t'=t)∨t'=gO t∨t'=jE t∨(∃ v,t.l.head? =some v∧t'=eZ t v)∨(∃ v,t.l.head? ≠ some v∧t'=gO (eZ t v))∨(∃ v,t'=gO (iE t v))∨t'=⟨[],0⟩
theorem Goe.left {t t':jM} (h:Goe t t') (hl:LeftOk t):LeftOk t':=by
 rcases h with ⟨_,rfl⟩|rfl|rfl|⟨v,_,rfl⟩|⟨v,_,rfl⟩|⟨v,rfl⟩|rfl
 · exact hl
 · exact hl.spend
 · exact leftYield
 · exact hl.drop v
 · exact (hl.drop v).spend
 · exact (hl.add v).spend
 · exact .inl rfl
theorem Goe.far {t t':jM} (h:Goe t t') {pid n:Int} (hw:Wt t pid n) (hn:t.l.Nodup):Far t' pid (n - 1):=by
 rcases h with ⟨h0,rfl⟩|rfl|rfl|⟨v,hv,rfl⟩|⟨v,hv,rfl⟩|⟨v,rfl⟩|rfl
 · have:=hw.mem
   rw [h0] at this;cases this
 · exact far_spend hw.far hw.left hw.hd
 · exact far_yield hw.far hw.left hw.hd
 · exact far_head hw.far hw.left hn hv
 · obtain ⟨h1,h2⟩:=far_drop hw.far hv;exact far_spend h1 (hw.left.drop v) (by rw [h2];exact hw.hd)
 · exact far_spend (hw.add v).far (hw.add v).left (hw.add v).hd
 · intro i hi;cases hi
theorem ends_t (k:aI) {pid:Int} (h:pid ≠ 1) (code why:Int):(ends k pid code why).t=eZ k.t pid:=by
 unfold ends;rw [if_neg h];dsimp only;split <;> rfl
theorem ends_goe {k:aI} {pid:Int} (hh:k.t.l.head? =some pid) (code why:Int):Goe k.t (ends k pid code why).t:=by
 by_cases h:pid=1
 · unfold ends;rw [if_pos h];exact .inr (.inr (.inr (.inr (.inr (.inr rfl)))))
 · rw [ends_t k h];exact .inr (.inr (.inr (.inl ⟨pid,hh,rfl⟩)))
theorem fresh_t (k:aI) (p:Proc):(fresh k p).t=k.t∨∃ v,(fresh k p).t=iE k.t v:=by
 unfold fresh;split
 · exact .inl rfl
 · split
   · exact .inr ⟨_,rfl⟩
   · exact .inl rfl
theorem goeS (t:jM):Goe t (gO t):=.inr (.inl rfl)
theorem goeA {t t':jM} (h:t'=t∨∃ v,t'=iE t v):Goe t (gO t'):=by
 rcases h with rfl|⟨v,rfl⟩
 · exact goeS _
 · exact .inr (.inr (.inr (.inr (.inr (.inl ⟨v,rfl⟩)))))
theorem asks_goe {k:aI} {p:Proc} (hh:k.t.l.head? =some p.pid) (x:Call):Goe k.t (if dF k p x=true then {asks k p x with t:=gO (asks k p x).t} else asks k p x).t:=by
 have T:∀ {A:aI},A.t=k.t→Goe k.t {A with t:=gO A.t}.t:=fun {A} e=> by
  show Goe k.t (gO A.t)
  rw [e];exact goeS _
 have D:∀ {t:jM},t=eZ k.t p.pid→Goe k.t t:=fun e=> .inr (.inr (.inr (.inl ⟨p.pid,hh,e⟩)));unfold dF asks;by_cases n1:x.n=1
 · simp only [if_pos n1];exact ends_goe hh _ _
 simp only [if_neg n1];by_cases n7:x.n=7
 · simp only [if_pos n7];exact .inr (.inr (.inl rfl))
 simp only [if_neg n7];by_cases n8:x.n=8
 · simp only [if_pos n8];by_cases h8:0<x.a
   · simp only [if_pos h8,decide_eq_true h8];exact D rfl
   · simp only [if_neg h8,decide_eq_false h8];exact T rfl
 simp only [if_neg n8];by_cases n20:x.n=20
 · simp only [if_pos n20];by_cases h3:3≤x.a
   · simp only [if_pos h3];exact T rfl
   · simp only [if_neg h3];exact T rfl
 simp only [if_neg n20];by_cases n19:x.n=19
 · simp only [if_pos n19];exact T rfl
 simp only [if_neg n19];by_cases n18:x.n=18
 · simp only [if_pos n18];exact T rfl
 simp only [if_neg n18];by_cases n5:x.n=5
 · simp only [if_pos n5];unfold jR lL;by_cases h1:x.a=1
   · simp only [if_pos h1,decide_eq_true h1,Bool.true_or];exact T rfl
   · simp only [if_neg h1,decide_eq_false h1,Bool.false_or];by_cases hv:pU k x=false
     · simp only [if_pos hv];rw [hv];exact T rfl
     · simp only [if_neg hv];have hv:pU k x=true:=by simpa using hv
       rw [hv];by_cases hp:x.a=p.pid
       · simp only [if_pos hp,decide_eq_true hp];exact D (by rw [← hp];exact ends_t k h1 _ _)
       · simp only [if_neg hp,decide_eq_false hp];refine .inr (.inr (.inr (.inr (.inl ⟨x.a,fun e=> hp ?_,?_⟩))))
         · rw [hh] at e;exact (Option.some.inj e).symm
         · show gO (ends k x.a 137 0).t=_
           rw [ends_t k h1]
 simp only [if_neg n5];by_cases n3:x.n=3
 · simp only [if_pos n3];exact goeA (fresh_t k (lK p))
 simp only [if_neg n3];by_cases n2:x.n=2
 · simp only [if_pos n2];by_cases h2:dA k x.a=0
   · simp only [if_pos h2];exact goeA (fresh_t k (lE p (eG k x.a)))
   · simp only [if_neg h2];exact T rfl
 simp only [if_neg n2];by_cases n17:x.n=17
 · simp only [if_pos n17];exact T rfl
 simp only [if_neg n17];have hw:=qTn k p.pid x;by_cases hb:eM k p.pid x=true
 · simp only [if_pos hb];exact T hw
 · simp only [if_neg hb];exact D (by show eZ (tries k p.pid x).t p.pid=_;rw [hw])
theorem goes_goe {k:aI} (h:Inv [] k):Goe k.t (goes k).t:=by
 unfold goes;cases htl:k.t.l with
 |nil=> exact .inl ⟨htl,rfl⟩
 |cons pid r=>
  dsimp only;obtain ⟨p,hp,hpid,h1⟩:=(h.tn.2 pid).1 (by rw [htl];exact List.mem_cons_self);rw [gQ h.tab.so hp hpid];dsimp only [Option.getD_some];have hh:k.t.l.head? =some pid:=by rw [htl];rfl
  split
  · exact goeS _
  · split
    · have:=asks_goe (k:={k with p:=put k.p (p.aU (aO p))}) (p:=p.aU (aO p)) (by show k.t.l.head? =some p.pid;rw [hh,hpid]) (p.aU (aO p)).from_
      exact this
    · exact ends_goe (k:=k) hh _ _
def Adds (k k':aI):Prop:=(k'.t=k.t∨∃ v,k'.t=iE k.t v)∧k'.s=k.s∧k'.now=k.now
theorem wake1_adds (k:aI) (pid:Int):Adds k (iY k pid):=by
 unfold iY;split
 · split
   · exact ⟨.inr ⟨_,rfl⟩,rfl,rfl⟩
   · exact ⟨.inl rfl,rfl,rfl⟩
 · exact ⟨.inl rfl,rfl,rfl⟩
theorem tries_s (k:aI) (pid:Int) (x:Call):(tries k pid x).s=k.s∧(tries k pid x).now=k.now:=by
 obtain ⟨_,_,h1,h2,_⟩:=jU k ((find k.p pid).getD Proc.zero) x;unfold tries;dsimp only;split
 · exact ⟨h1,h2⟩
 · exact ⟨h1,h2⟩
theorem wake2_adds (k:aI) (p:Proc):Adds k (iZ k p):=by
 unfold iZ;have h1:=qTn k p.pid p.want;have h2:=tries_s k p.pid p.want;split
 · split
   · exact ⟨.inr ⟨p.pid,by show iE (tries k p.pid p.want).t _=_;rw [h1]⟩,h2⟩
   · exact ⟨.inl h1,h2⟩
 · exact ⟨.inl rfl,rfl,rfl⟩
theorem fold_adds {α:Type} (f:aI→α→aI) (hf:∀ k a,Adds k (f k a)) (Q:jM→Prop) (hQ:∀ t v,Q t→Q (iE t v)):∀ (l:List α) (k:aI),Q k.t→Q (l.foldl f k).t∧(l.foldl f k).s=k.s∧(l.foldl f k).now=k.now
 |[],_,h=> ⟨h,rfl,rfl⟩
 |a::l,k,h=> by
  obtain ⟨h1,h2,h3⟩:=hf k a
  have hq:Q (f k a).t:=by
   rcases h1 with h1|⟨v,h1⟩
   · rw [h1];exact h
   · rw [h1];exact hQ _ v h
  obtain ⟨g1,g2,g3⟩:=fold_adds f hf Q hQ l (f k a) hq;exact ⟨g1,g2.trans h2,g3.trans h3⟩
theorem wakes_adds (Q:jM→Prop) (hQ:∀ t v,Q t→Q (iE t v)) (k:aI) (h:Q k.t):Q (jA k).t∧(jA k).s=rest k.s k.now∧(jA k).now=k.now:=by
 obtain ⟨g1,g2,g3⟩:=fold_adds iY wake1_adds Q hQ (due k.s k.now) {k with s:=rest k.s k.now} h;obtain ⟨f1,f2,f3⟩:=fold_adds iZ wake2_adds Q hQ (cU k).p (cU k) g1;exact ⟨f1,f2.trans g2,f3.trans g3⟩
theorem over_turn {k:aI} (h:Inv [] k) (hl:Life k) (hg:k.gone ≠ 0):k.t.l=[]∧k.s=[]:=by
 have hp:k.p=[]:=by
  rcases hl with g|g
  · exact absurd g.1 hg
  · exact g.2
 have h1:=h.tn.2;have h2:=h.al.2;rw [hp] at h1 h2;refine ⟨List.eq_nil_iff_forall_not_mem.2 fun a ha=> ?_,List.eq_nil_iff_forall_not_mem.2 fun a ha=> ?_⟩
 · obtain ⟨p,hp,_⟩:=(h1 a).1 ha;cases hp
 · obtain ⟨p,hp,_⟩:=(h2 a.pid).1 (List.mem_append_left _ (List.mem_map.2 ⟨a,ha,rfl⟩));cases hp
theorem step_left {k:aI} (h:Inv [] k) (hl:LeftOk k.t):LeftOk (step k).t:=by
 unfold step;dsimp only;split
 · have h1:Inv [] {k with sent:=[],want:=0}:=h.same rfl rfl rfl rfl rfl rfl;exact (goes_goe h1.jA.inv).left (wakes_adds LeftOk (fun _ v h=> h.add v) {k with sent:=[],want:=0} hl).1
 · exact hl
theorem step_far {k:aI} (h:Inv [] k) (hf:Life k) {pid n:Int} (hw:Wt k.t pid n):Far (step k).t pid (n - 1):=by
 unfold step;dsimp only;split
 · have h1:Inv [] {k with sent:=[],want:=0}:=h.same rfl rfl rfl rfl rfl rfl;exact (goes_goe h1.jA.inv).far (wakes_adds (fun t=> Wt t pid n) (fun _ v h=> h.add v) {k with sent:=[],want:=0} hw).1 h1.jA.inv.tn.1
 · next hg=>
   have:=hw.mem
   rw [(over_turn h hf hg).1] at this;cases this
theorem rest_late {l:List Alarm} {now:Int} (h:l.Pairwise jB):∀ a ∈ rest l now,now<a.at_:=by
 unfold rest;induction l with
 |nil=> intro a ha;cases ha
 |cons x l ih=>
  intro a ha;obtain ⟨h1,h2⟩:=List.pairwise_cons.1 h;by_cases hx:x.at_≤now
  · rw [List.dropWhile_cons_of_pos (by simpa using hx)] at ha;exact ih h2 a ha
  · rw [List.dropWhile_cons_of_neg (by simpa using hx)] at ha;rcases List.mem_cons.1 ha with rfl|ha
    · omega
    · have:=h1 a ha
      unfold jB at this;omega
def Late (now:Int) (l:List Alarm):Prop:=∀ a ∈ l,now<a.at_∧a.at_≤18446744073709551615
def Up (l:List Alarm):Prop:=∀ a ∈ l,a.at_≤18446744073709551615
theorem sadd_mem {l:List Alarm} {a b:Alarm} (h:b ∈ pM l a):b=a∨b ∈ l:=by
 unfold pM at h;split at h
 · next i _=>
   unfold ins at h;rcases List.mem_append.1 h with h|h
   · exact .inr (List.mem_of_mem_take h)
   · rcases List.mem_cons.1 h with h|h
     · exact .inl h
     · exact .inr (List.mem_of_mem_drop h)
 · rcases List.mem_append.1 h with h|h
   · exact .inr h
   · exact .inl (List.mem_singleton.1 h)
theorem ends_late {k:aI} {pid:Int} {n:Int} (h:Late n k.s) (code why:Int):Late n (ends k pid code why).s:=by
 have hd:Late n (lY k.s pid):=fun a ha=> h a (List.mem_filter.1 ha).1;unfold ends;dsimp only;split
 · intro a ha;cases ha
 · split <;> exact hd
theorem fresh_s (k:aI) (p:Proc):(fresh k p).s=k.s:=by
 unfold fresh;split
 · rfl
 · split <;> rfl
theorem asks_late {k:aI} {p:Proc} (h:Late k.now k.s) (hn:k.now<18446744073709551615) (x:Call):Late k.now (asks k p x).s:=by
 have E:∀ {A:aI},A.s=k.s→Late k.now A.s:=fun e=> by rw [e];exact h
 unfold asks;by_cases n1:x.n=1
 · rw [if_pos n1];exact ends_late h _ _
 rw [if_neg n1];by_cases n7:x.n=7
 · rw [if_pos n7];exact h
 rw [if_neg n7];by_cases n8:x.n=8
 · rw [if_pos n8];by_cases h8:0<x.a
   · rw [if_pos h8];intro a ha;rcases sadd_mem ha with rfl|ha
     · show k.now<til k.now x.a∧til k.now x.a≤18446744073709551615
       unfold til;omega
     · exact h a ha
   · rw [if_neg h8];exact h
 rw [if_neg n8];by_cases n20:x.n=20
 · rw [if_pos n20];split <;> exact h
 rw [if_neg n20];by_cases n19:x.n=19
 · rw [if_pos n19];exact h
 rw [if_neg n19];by_cases n18:x.n=18
 · rw [if_pos n18];exact h
 rw [if_neg n18];by_cases n5:x.n=5
 · rw [if_pos n5];unfold jR;split
   · exact h
   · split
     · exact h
     · dsimp only;split
       · exact ends_late h _ _
       · exact ends_late h _ _
 rw [if_neg n5];by_cases n3:x.n=3
 · rw [if_pos n3];exact E (fresh_s k (lK p))
 rw [if_neg n3];by_cases n2:x.n=2
 · rw [if_pos n2];split
   · exact E (fresh_s k (lE p (eG k x.a)))
   · exact h
 rw [if_neg n2];by_cases n17:x.n=17
 · rw [if_pos n17];exact h
 rw [if_neg n17];split
 · exact E (tries_s k p.pid x).1
 · exact E (tries_s k p.pid x).1
theorem goes_late {k:aI} (h:Late k.now k.s) (hn:k.now<18446744073709551615):Late k.now (goes k).s:=by
 unfold goes;split
 · exact h
 · dsimp only;split
   · exact h
   · split
     · next pid r _ _ _=>
       have ha:=asks_late (k:={k with p:=put k.p (((find k.p pid).getD Proc.zero).aU (aO ((find k.p pid).getD Proc.zero)))}) (p:=((find k.p pid).getD Proc.zero).aU (aO ((find k.p pid).getD Proc.zero))) h hn (((find k.p pid).getD Proc.zero).aU (aO ((find k.p pid).getD Proc.zero))).from_;split <;> exact ha
     · exact ends_late h _ _
theorem step_late {k:aI} (h:Inv [] k) (hf:Life k) (hu:Up k.s) (hn:k.now<18446744073709551615):Late k.now (step k).s:=by
 unfold step;dsimp only;split
 · have h1:Inv [] {k with sent:=[],want:=0}:=h.same rfl rfl rfl rfl rfl rfl;obtain ⟨_,e1,e2⟩:=wakes_adds (fun _=> True) (fun _ _ _=> trivial) {k with sent:=[],want:=0} trivial;have:=goes_late (k:=jA {k with sent:=[],want:=0}) (by rw [e1,e2];exact fun a ha=> ⟨rest_late h1.so a ha,hu a ((List.dropWhile_sublist _).subset ha)⟩) (by rw [e2];exact hn)
   rw [e2] at this;exact this
 · next hg=>
   intro a ha;have ha:a ∈ k.s:=ha;rw [(over_turn h hf hg).2] at ha;cases ha
theorem boot_left (mem:Int) (images:List ByteArray) (outs ins:List cS) (now:Int):LeftOk (eK mem images outs ins now).t:=by
 have h0:∀ (k:aI) (p:Proc),LeftOk k.t→LeftOk (fresh k p).t:=fun k p h=> by
  rcases fresh_t k p with e|⟨v,e⟩
  · rw [e];exact h
  · rw [e];exact h.add v
 unfold eK;dsimp only;repeat' split
 all_goals first|exact h0 _ _ (.inl rfl)|exact .inl rfl
theorem run_left {n:Nat} {k:aI} (h:Good n k) (hl:LeftOk k.t):∀ m:Nat,LeftOk (run m k).t
 |0=> hl
 |m + 1=> by
  rw [qQc];exact step_left (h.run m).inv (run_left h hl m)
theorem far_start {n:Nat} {k:aI} (h:Good n k) {pid:Int} {q:Nat} (hq:∀ i:Nat,k.t.l[i]? =some pid→i≤q):Far k.t pid (5 * (q:Int)):=fun i hi=> by
 have h1:=hq i hi;have h2:=h.inv.tl.2;by_cases h0:i=0
 · exact .inl h0
 · right;omega
theorem far_end {t:jM} {pid:Int} (h:Far t pid 0) (hl:LeftOk t) (hm:pid ∈ t.l):t.l.head? =some pid:=by
 obtain ⟨i,hi⟩:=List.getElem?_of_mem hm;rcases h i hi with rfl|h
 · rw [List.head?_eq_getElem?];exact hi
 · rcases hl with hl|hl
   · rw [hl] at hm;cases hm
   · by_cases h0:i=0
     · subst h0;rw [List.head?_eq_getElem?];exact hi
     · omega
theorem run_nowF {n:Nat} {k:aI} (h:Good n k):∀ m:Nat,k.now + m≤18446744073709551615→(Kn.run m k).now=k.now + m
 |0,_=> by show k.now=_;omega
 |m + 1,hm=> by
  have ih:=run_nowF h m (by omega);have hr:=h.run m;rw [qQc,qQf hr.inv hr.life,ih];unfold til;omega
theorem run_up {n:Nat} {k:aI} (h:Good n k) (hu:Up k.s):∀ m:Nat,k.now + m<18446744073709551615→Up (run m k).s
 |0,_=> hu
 |m + 1,hm=> by
  rw [qQc];exact fun a ha=> (step_late (h.run m).inv (h.run m).life (run_up h hu m (by omega)) (by rw [run_nowF h m (by omega)];omega) a ha).2
theorem run_late {n:Nat} {k:aI} (h:Good n k) (hu:Up k.s) (m:Nat) (hm:k.now + m<18446744073709551615):∀ a ∈ (run (m + 1) k).s,k.now + m<a.at_:=by
 rw [qQc,← run_nowF h m (by omega)];exact fun a ha=> (step_late (h.run m).inv (h.run m).life (run_up h hu m hm) (by rw [run_nowF h m (by omega)];omega) a ha).1
theorem boot_s (mem:Int) (images:List ByteArray) (outs ins:List cS) (now:Int):(eK mem images outs ins now).s=[]:=by
 unfold eK;dsimp only;repeat' split
 all_goals first|exact fresh_s _ _|rfl
end Kn
end Go.Proofs.YtfncknignkndiaaGreatDoor
namespace Go.Proofs.YtfncknignkndiaaGreatDoor
open Go.RowKit KR
namespace Kn
def RunR (w:World) (k:aI) (n:Nat) (iv:Value) (W:World):Prop:=∃ (i:Nat) (y:Lay) (bs:List fY),i≤n∧iv=.int .i64 i∧W.heap[w.heap.size]? =some (.cells (aJ y (run i k)) 41 (0,0))∧aH W y bs (run i k)∧
 (∃ z,z.size=17∧W.heap[w.heap.size + 1]? =some (.cells z 41 (0,0)))∧Below w.heap.size w W
theorem SRun (v:Value) (k:aI) (m:Nat) (n:Int) (w:World) (hk:pV w v k) (hn:m=n.toNat) (hmb:m≤1000000) (hr:∀ i,i<m→qJf (run i k)) (hT:Tab w):
 Calls Tryz.prog 11 #[v,.int .i64 n] w (oX (run m k) w):=by
 have HMX:Hid (max n 0=(m:Int)):=hU (by omega);clear hn;obtain ⟨y0,bs0,rfl,hl⟩:=hk;obtain ⟨q0,q1⟩:=eF w w.heap.size (.cells (aJ y0 k) 41) (.cells zSe 41) rfl;have hb0:Below w.heap.size w ((w.alloc (.cells (aJ y0 k) 41)).alloc (.cells zSe 41)):=bel;obtain ⟨W0,hW0⟩:∃ W0,((w.alloc (.cells (aJ y0 k) 41)).alloc (.cells zSe 41))=W0:=⟨_,rfl⟩
 rw [hW0] at q0 q1 hb0;have hl0:=hl.below hb0;clear hl;have HR:=hU hr;have HT:=hU (fun W (h:Below w.heap.size w W)=> hT.below h);clear hr hT;go_in
 repeat' (first
  |(rw [hW0];clear hW0)
  |go_values|go_skip|go_guarded|refine wg ?_|go_step|go_upon)
 rw [HMX.out];clear HMX;go_loopw [7] (fun iv wr=> RunR w k m iv wr) (fun iv _=> m - (intOf iv).toNat)
 case atStart=> exact ⟨0,y0,bs0,Nat.zero_le _,rfl,q0,hl0,⟨_,rfl,q1⟩,hb0⟩
 case round=>
  clear q0 q1 hb0 hl0;obtain ⟨i,y,bs,hi,rfl,hA,hl,⟨z,hz,hRR⟩,hb⟩:=hrel;have HA:=hU hA;have HL:=hU hl;have HZ:=hU hRR;have HB:=hU hb;have hzb:=hb.size;have hza:=hlt hA;clear hA hl hRR hb;by_cases hil:i<m
  · repeat' (first
     |(refine aE (t:=41) (v:=.agg (aJ y (run i k))) rfl rfl rfl (aD cR HA.out rfl) ?_)
     |go_values|go_skip|go_guarded|refine wg ?_|go_step|go_upon)
    refine (qYw _ (run i k) _ ⟨y,bs,rfl,HL.out⟩ (HR.out i hil) (HT.out _ HB.out)).mono ?_;rintro er W1 ⟨v1,rfl,⟨y1,bs1,rfl,hl1⟩,hb1⟩;have HA1:=hU ((hb1.block _ (hlt HA.out)).trans HA.out);have HZ1:=hU ((hb1.block _ (hlt HZ.out)).trans HZ.out);have HB1:=hU (HB.out.trans (hb1.mono hzb));have HL1:=hU hl1;clear hb1 hl1 HA HZ HB HL;dsimp only
    repeat' (first
     |(refine sN 41 (.agg (aJ y1 (step (run i k)))) 0 (aJ y1 (step (run i k))) cR.size HA1.out (nS HL1.out) fun W2 hp=> ?_
       have HA2:=hU hp.at_;have HZ2:=hU ((hp.oth (w.heap.size + 1) (by omega)).trans HZ1.out);have HB2:=hU (Below.put HB1.out hp (Nat.le_refl _));have HL2:=hU (HL1.out.put HA1.out qXa hp);clear hp)
     |go_values|go_skip|go_guarded|refine wg ?_|go_step|go_upon)
    exact ⟨⟨i + 1,y1,bs1,by omega,by go_num,by rw [qQc];exact HA2.out,by rw [qQc];exact HL2.out,⟨z,hz,HZ2.out⟩,HB2.out⟩,by simp [intOf];omega⟩
  · obtain rfl:i=m:=by omega
    repeat' (first
     |(refine aE (t:=41) (v:=.agg (aJ y (run i k))) rfl rfl rfl (aD cR HA.out rfl) ?_)
     |(refine aK (t:=41) (v:=.agg (aJ y (run i k))) (off:=0) (new:=aJ y (run i k)) rfl rfl rfl rfl cR.size HZ.out rfl (by rw [hz];decide) (nS HL.out) (eD (by rw [hz];rfl)) ?_;intro W2 hp
       have HZ2:=hU hp.at_;have HB2:=hU (Below.put HB.out hp (Nat.le_succ _));have HL2:=hU (HL.out.put HZ.out qXa hp);clear hp)
     |go_values|go_skip|go_guarded|refine wg ?_|go_step|go_upon)
    (try simp only [Exit.inBlock,Exit.then]);refine bodyPost_ret (cJ Tryz.results11 cR rfl HZ2.out rfl) rfl ?_
    exact ⟨_,rfl,⟨_,_,rfl,HL2.out⟩,HB2.out⟩
end Kn
end Go.Proofs.YtfncknignkndiaaGreatDoor
namespace Go.Proofs.YtfncknignkndiaaGreatDoor
open Go.RowKit KR Kn RegT3
namespace Hy
theorem wpL_cast {P:Program} {md:Region.Mode} {ops:Array Oper} {Q:Exit→Act→World→Prop} {S:World→Prop} {st:List Nat} {f f':Nat} {l l':Array Bool} {a:Act} {w:World} (h:wpL P md ops Q S st f l a w) (hl:l=l':=by kernel_rfl) (hf:f=f':=by kernel_rfl):wpL P md ops Q S st f' l' a w:=by
 subst hl hf;exact h
theorem TInIn (l:List Int) (n:Int) (i:Nat) {x:Int} (h:l[i]? =some x) (ha:n ∉ l.take i) (hx:¬ x=n):n ∉ l.take (i + 1):=by
 rw [List.take_add_one,h,Option.toList_some,List.mem_append,List.mem_singleton];rintro (h1|h1)
 · exact ha h1
 · exact hx h1.symm
def TInR (l:List Int) (n:Int) (w:World) (iv:Value) (W:World):Prop:=∃ i:Nat,i≤l.length∧iv=.int .i64 i∧W=w∧n ∉ l.take i
theorem TIn (v:Value) (l:List Int) (n:Int) (w:World) (h:SlI w v l):Calls Tryz.prog 14 #[v,.int .i64 n] w (Is (.bool (l.contains n)) w):=by
 obtain ⟨a,c,rfl,hc0,hc1⟩:=h.shape;have HE:=hU h.elem.2.2.2;clear h;go_in;refine sg ?_;intros;go_loopw [5] (fun iv wr=> TInR l n w iv wr) (fun iv _=> l.length - (intOf iv).toNat)
 case atStart=> exact ⟨0,Nat.zero_le _,rfl,rfl,by simp⟩
 case round=>
  obtain ⟨i,hi,rfl,rfl,hall⟩:=hrel;have HA:=hU hall;clear hall;have i0:(0:Int)≤(i:Int):=by omega
  by_cases hil:i<l.length
  · have e1:decide ((i:Int)<(l.length:Int))=true:=by simp;omega
    have e2:decide (i<l.length)=true:=by simp;omega
    have e3:(i:Int)<(l.length:Int):=by omega
    obtain ⟨x,hx⟩:∃ x,l[i]? =some x:=⟨_,List.getElem?_eq_getElem hil⟩
    obtain ⟨g,off,hga,_,hcx⟩:=HE.out i x hx;subst hga
    have c0:wr.cell? ⟨g,off + i,none⟩=some (.int .i64 x):=by
     have:=hcx wr (Below.refl _ _) 0 _ rfl
     rw [Nat.mul_one,Nat.add_zero] at this;exact this
    have HX:=hU hx;clear hcx hx;by_cases hxn:x=n
    · have e5:(x==n)=true:=by simp [hxn]
      have HF:Hid (l.contains n=true):=hU (List.contains_iff_mem.2 (hxn ▸ List.mem_of_getElem? HX.out));clear hxn;refine sg ?_;intros;go_ret;rw [HF.out];exact ⟨rfl,rfl⟩
    · have e5:(x==n)=false:=by simpa using hxn
      have HNX:=hU hxn;clear hxn;refine sg ?_;intros;exact ⟨⟨i + 1,by omega,by go_num,rfl,TInIn l n i HX.out HA.out HNX.out⟩,by simp [intOf];omega⟩
  · have e1:decide ((i:Int)<(l.length:Int))=false:=by simp;omega
    have e2:decide (i<l.length)=false:=by simp;omega
    have HF:Hid (l.contains n=false):=hU (by
     have:=HA.out
     rw [List.take_of_length_le (by omega)] at this;rw [← Bool.not_eq_true,List.contains_iff_mem];exact this)
    refine sg ?_;intros;go_ret;rw [HF.out];exact ⟨rfl,rfl⟩
theorem joinF4 {A B C D:Type} {G:Prop} {T F:A→B→C→D→Prop} (h1:∀ a b c d,F a b c d→T a b c d) (h2:(∀ a b c d,F a b c d→T a b c d)→G):G:=h2 h1
theorem joinF3 {A B C:Type} {G:Prop} {T F:A→B→C→Prop} (h1:∀ a b c,F a b c→T a b c) (h2:(∀ a b c,F a b c→T a b c)→G):G:=h2 h1
def PlR (wo:World) (l:List Int) (pid:Int) (pv iv:Value) (W:World):Prop:=∃ (i:Nat) (q:Int),i≤l.length∧iv=.int .i64 i∧pv=.int .i64 q∧ -1≤q∧q<i∧(∀ j:Nat,j<i→l[j]? =some pid→(j:Int)≤q)∧Below wo.heap.size wo W
def FairR (w:World) (b4:Nat) (pc:Array Value) (k1:aI) (Q:Nat) (pid:Int) (nv:Value) (W:World):Prop:=∃ (j:Nat) (y:Lay) (bs:List fY),j≤5 * Q∧nv=.int .i64 j∧Hid (W.heap[w.heap.size]? =some (.cells pc 24 (0,0)))∧Hid (W.heap[b4]? =some (.cells (aJ y (run j k1)) 41 (0,0)))∧Hid (aH W y bs (run j k1))∧Hid (Below w.heap.size w W)∧Hid (Far (run j k1).t pid (5 * (Q:Int) - (j:Int)))
def ZeR (W:World) (n:Nat) (iv:Value) (wr:World):Prop:=∃ i:Nat,i≤n∧iv=.int .i64 i∧Hid (Below W.heap.size W wr)
theorem LTopFair (mem:Int) (iv:Value) (images:List ByteArray) (n pid:Int) (w:World) (hi:Rd 1 strCells w iv images) (m0: -9223372036854775808≤mem) (m1:mem≤9223372036854775807) (hT:Tab w):
 Calls Tryz.prog 3 #[.agg #[.int .i64 mem,iv,.int .i64 n,.int .i64 pid]] w (aN (.bool true) w):=by
 obtain ⟨ai,ci,rfl,_,_⟩:=hi.shape;obtain ⟨Wn,hW0,hb0,HP⟩:=nb1 (W:=w) (.cells #[.int .i64 mem,.slice ai images.length ci,.int .i64 n,.int .i64 pid] 24) rfl;have HB:=hU hb0;have HT:=hU (fun W (h:Below w.heap.size w W)=> hT.below h);have HI:=hU (fun W (h:Below w.heap.size w W)=> hi.below h);clear hb0 hi hT;go_in;repeat' (first|(rw [hW0];clear hW0)|go_values|go_skip|go_guarded|refine wg ?_|go_step|go_upon)
 refine (qVa _ (HT.out _ HB.out)).mono ?_;rintro er Wn ⟨rfl,hb⟩;replace HP:=nB hb HP;replace HB:=nW hb HB;clear hb;dsimp only;have p1:Wn.cell? ⟨w.heap.size,1,none⟩=some (.slice ai images.length ci):=aC HP.out 1;by_cases h8:8<images.length
 · have e1:decide ((8:Int)<(images.length:Int))=true:=by simp;omega
   have e2:decide (8<images.length)=true:=by simp;omega
   refine sg ?_;intros;go_ret;exact cF rfl HB.out
 have e1:decide ((8:Int)<(images.length:Int))=false:=by simp;omega
 have e2:decide (8<images.length)=false:=by simp;omega
 refine sg ?_;intros;clear p1 e1 e2;obtain ⟨k0,hk0⟩:∃ k,eK mem images [] [] 0=k:=⟨_,rfl⟩
 have hg0:Kn.Good 0 k0:=by rw [← hk0];exact qCj mem images [] [] 0 (by omega) (by decide) (by decide) (by decide) m0 m1
 have hl0:LeftOk k0.t:=by rw [← hk0];exact boot_left mem images [] [] 0
 have hn0:k0.now=0:=by rw [← hk0];exact (iH mem images [] [] 0).1
 have hu0:Up k0.s:=by rw [← hk0,boot_s];exact fun a ha=> by cases ha
 have hbo:=fun W (hb:Below w.heap.size w W)=> qTz mem (.slice ai images.length ci) (.slice none 0 0) (.slice none 0 0) images [] [] 0 W (HI.out W hb) Rd.nil Rd.nil (by omega) (by decide) (by decide) m0 m1;rw [hk0] at hbo;have HBO:=hU hbo;obtain ⟨m,hm⟩:∃ m,m=(qGy n).toNat:=⟨_,rfl⟩
 have hmm:m≤600:=by have:=xAf n;omega
 obtain ⟨k1,hk1⟩:∃ k,run m k0=k:=⟨_,rfl⟩
 have hg1:Kn.Good (0 + m) k1:=by rw [← hk1];exact hg0.run m
 have hl1:LeftOk k1.t:=by rw [← hk1];exact run_left hg0 hl0 m
 have hn1:k1.now=m:=by rw [← hk1,run_nowF hg0 m (by omega),hn0];omega
 have hu1:Up k1.s:=by rw [← hk1];exact run_up hg0 hu0 m (by omega)
 have hru:=fun (y:Lay) (bs:List fY) W (hl:aH W y bs k0) ht=> SRun (.agg (aJ y k0)) k0 m (qGy n) W ⟨y,bs,rfl,hl⟩ hm (by omega) (fun i hi=> (hg0.run i).ready (by omega)) ht;rw [hk1] at hru;have HRU:=hU hru;have HG1:=hU hg1;have HL1:=hU hl1;have HN1:=hU hn1;have HU1:=hU hu1;have HMM:=hU hmm;clear hru hbo hg0 hl0 hn0 hu0 hg1 hl1 hn1 hu1 hm hk0 hk1 h8 HI hmm;refine wp_region_noPanic ?_;refine go0 (S:=fun W=> W.cell? ⟨w.heap.size,0,none⟩=some (.int .i64 mem)∧W.cell? ⟨w.heap.size,1,none⟩=some (.slice ai images.length ci)∧W.cell? ⟨w.heap.size,2,none⟩=some (.int .i64 n)) [10] (⟨aC HP.out 0,aC HP.out 1,aC HP.out 2⟩) fun hS=> ?_;obtain ⟨Wd,hWd⟩:=exW Wn.drew;have hbd:=dW hWd;replace HP:=nB hbd HP;replace HB:=nW hbd HB;rw [hWd] at hS ⊢;clear hWd hbd;refine tp 0 ?_;(try simp only [aF])
 refine tl 1 ?_;(try simp only [aF])
 refine tp 2 ?_;(try simp only [aF])
 refine tl 3 ?_;(try simp only [aF])
 refine tp 5 ?_;(try simp only [aF])
 refine tl 6 ?_;(try simp only [aF])
 clear hS;revert HP HB;apply joinF4 (F:=fun (b4:Nat) (yB y4:Lay) (W:World)=> Hid (W.heap[w.heap.size]? =some (.cells #[.int .i64 mem,.slice ai images.length ci,.int .i64 n,.int .i64 pid] 24 (0,0)))∧Hid (Below w.heap.size w W)∧Hid (W.heap[b4]? =some (.cells zSe 41 (0,0)))∧w.heap.size<b4∧Hid (∃ bs,aH W y4 bs k1))
 case h2=>
  intro hj HP HB;refine oT (i:=4) (j:=9) (by kernel_rfl) rfl rfl (fun K hK=> ?_) (fun K hK=> ?_)
  · refine want rfl ?_;go_simp;refine (HBO.out _ HB.out).mono ?_;rintro er Wr ⟨vB,rfl,⟨yB,bsB,rfl,hl⟩,hb⟩;replace HP:=nB hb HP;replace HB:=nW hb HB;have HLB:Hid (∃ bs,aH Wr yB bs k0):=hU ⟨bsB,hl⟩;clear hb hl;dsimp only;refine nx hK (⟨aC HP.out 0,aC HP.out 1,aC HP.out 2⟩) fun hS=> ?_;clear hK K hS;(try simp only [aF])
    refine oT (i:=7) (j:=9) (by kernel_rfl) rfl rfl (fun K hK=> ?_) (fun K hK=> ?_)
    · refine want rfl ?_;go_simp;refine (qYl n _).mono ?_;rintro er Wx ⟨rfl,rfl⟩;dsimp only;refine nx hK (⟨aC HP.out 0,aC HP.out 1,aC HP.out 2⟩) fun hS=> ?_;clear hK K hS;(try simp only [aF])
      refine oT (i:=8) (j:=9) (by kernel_rfl) rfl rfl (fun K hK=> ?_) (fun K hK=> ?_)
      · refine want rfl ?_;go_simp;obtain ⟨bsC,hlC⟩:=HLB.out;refine (HRU.out yB bsC _ hlC (HT.out _ HB.out)).mono ?_;rintro er Wr ⟨vK,rfl,⟨y4,bs4,rfl,hl⟩,hb⟩;replace HP:=nB hb HP;replace HB:=nW hb HB;have HD:Hid (∃ bs,aH Wr y4 bs k1):=hU ⟨bs4,hl⟩;clear hb hl hlC HLB;dsimp only;refine nx hK (⟨aC HP.out 0,aC HP.out 1,aC HP.out 2⟩) fun hS=> ?_;clear hK K hS;(try simp only [aF])
        refine ro 9 fun K hK=> ?_;go_simp;obtain ⟨b4,hab,hbz⟩:=nbz HB;have hbn:=nlt HP hab;obtain ⟨Wa,hWn,hba,HN⟩:=nb1 (W:=_) (.cells zSe 41) hab;rw [hWn];clear hWn;replace HP:=nB hba HP;replace HB:=nW hba HB;replace HD:=hU (HD.out.imp fun _ h=> h.below hba);clear hba;try rw [hab]
        clear hab;refine nx hK (⟨aC HP.out 0,aC HP.out 1,aC HP.out 2⟩) fun hS=> ?_;clear hK K hS;(try simp only [aF])
        exact hj b4 yB y4 Wa ⟨HP,HB,HN,hbn,HD⟩
      · go_simp;obtain ⟨b4,hab,hbz⟩:=nbz HB;have hbn:=nlt HP hab;obtain ⟨Wa,hWn,hba,HN⟩:=nb1 (W:=_) (.cells zSe 41) hab;rw [hWn];clear hWn;replace HP:=nB hba HP;replace HB:=nW hba HB;replace HLB:=hU (HLB.out.imp fun _ h=> h.below hba);clear hba;try rw [hab]
        clear hab;refine nx hK (⟨aC HP.out 0,aC HP.out 1,aC HP.out 2⟩) fun hS=> ?_;clear hK K hS;(try simp only [aF])
        refine ro 8 fun K hK=> ?_;refine want rfl ?_;go_simp;obtain ⟨bsC,hlC⟩:=HLB.out;refine (HRU.out yB bsC _ hlC (HT.out _ HB.out)).mono ?_;rintro er Wr ⟨vK,rfl,⟨y4,bs4,rfl,hl⟩,hb⟩;replace HP:=nB hb HP;replace HB:=nW hb HB;replace HN:=nB hb HN;have HD:Hid (∃ bs,aH Wr y4 bs k1):=hU ⟨bs4,hl⟩;clear hb hl hlC HLB;dsimp only;refine nx hK (⟨aC HP.out 0,aC HP.out 1,aC HP.out 2⟩) fun hS=> ?_;clear hK K hS;(try simp only [aF])
        exact wpL_cast (hj b4 yB y4 Wr ⟨HP,HB,HN,hbn,HD⟩)
    · go_simp;obtain ⟨b4,hab,hbz⟩:=nbz HB;have hbn:=nlt HP hab;obtain ⟨Wa,hWn,hba,HN⟩:=nb1 (W:=_) (.cells zSe 41) hab;rw [hWn];clear hWn;replace HP:=nB hba HP;replace HB:=nW hba HB;replace HLB:=hU (HLB.out.imp fun _ h=> h.below hba);clear hba;try rw [hab]
      clear hab;refine nx hK (⟨aC HP.out 0,aC HP.out 1,aC HP.out 2⟩) fun hS=> ?_;clear hK K hS;(try simp only [aF])
      refine ro 7 fun K hK=> ?_;refine want rfl ?_;go_simp;refine (qYl n _).mono ?_;rintro er Wx ⟨rfl,rfl⟩;dsimp only;refine nx hK (⟨aC HP.out 0,aC HP.out 1,aC HP.out 2⟩) fun hS=> ?_;clear hK K hS;(try simp only [aF])
      refine ro 8 fun K hK=> ?_;refine want rfl ?_;go_simp;obtain ⟨bsC,hlC⟩:=HLB.out;refine (HRU.out yB bsC _ hlC (HT.out _ HB.out)).mono ?_;rintro er Wr ⟨vK,rfl,⟨y4,bs4,rfl,hl⟩,hb⟩;replace HP:=nB hb HP;replace HB:=nW hb HB;replace HN:=nB hb HN;have HD:Hid (∃ bs,aH Wr y4 bs k1):=hU ⟨bs4,hl⟩;clear hb hl hlC HLB;dsimp only;refine nx hK (⟨aC HP.out 0,aC HP.out 1,aC HP.out 2⟩) fun hS=> ?_;clear hK K hS;(try simp only [aF])
      exact wpL_cast (hj b4 yB y4 Wr ⟨HP,HB,HN,hbn,HD⟩)
  · go_simp;obtain ⟨b4,hab,hbz⟩:=nbz HB;have hbn:=nlt HP hab;obtain ⟨Wa,hWn,hba,HN⟩:=nb1 (W:=_) (.cells zSe 41) hab;rw [hWn];clear hWn;replace HP:=nB hba HP;replace HB:=nW hba HB;clear hba;try rw [hab]
    clear hab;refine nx hK (⟨aC HP.out 0,aC HP.out 1,aC HP.out 2⟩) fun hS=> ?_;clear hK K hS;(try simp only [aF])
    refine ro 4 fun K hK=> ?_;refine want rfl ?_;go_simp;refine (HBO.out _ HB.out).mono ?_;rintro er Wr ⟨vB,rfl,⟨yB,bsB,rfl,hl⟩,hb⟩;replace HP:=nB hb HP;replace HB:=nW hb HB;replace HN:=nB hb HN;have HLB:Hid (∃ bs,aH Wr yB bs k0):=hU ⟨bsB,hl⟩;clear hb hl;dsimp only;refine nx hK (⟨aC HP.out 0,aC HP.out 1,aC HP.out 2⟩) fun hS=> ?_;clear hK K hS;(try simp only [aF])
    refine ro 7 fun K hK=> ?_;refine want rfl ?_;go_simp;refine (qYl n _).mono ?_;rintro er Wx ⟨rfl,rfl⟩;dsimp only;refine nx hK (⟨aC HP.out 0,aC HP.out 1,aC HP.out 2⟩) fun hS=> ?_;clear hK K hS;(try simp only [aF])
    refine ro 8 fun K hK=> ?_;refine want rfl ?_;go_simp;obtain ⟨bsC,hlC⟩:=HLB.out;refine (HRU.out yB bsC _ hlC (HT.out _ HB.out)).mono ?_;rintro er Wr ⟨vK,rfl,⟨y4,bs4,rfl,hl⟩,hb⟩;replace HP:=nB hb HP;replace HB:=nW hb HB;replace HN:=nB hb HN;have HD:Hid (∃ bs,aH Wr y4 bs k1):=hU ⟨bs4,hl⟩;clear hb hl hlC HLB;dsimp only;refine nx hK (⟨aC HP.out 0,aC HP.out 1,aC HP.out 2⟩) fun hS=> ?_;clear hK K hS;(try simp only [aF])
    exact wpL_cast (hj b4 yB y4 Wr ⟨HP,HB,HN,hbn,HD⟩)
 rintro b4 yB y4 Wn ⟨HP,HB,HN,hbn,HD⟩;obtain ⟨bs4,hl4⟩:=HD.out;have HL:=hU hl4;clear hl4 HD HRU HBO;refine ro 10 fun K hK=> ?_;refine want rfl ?_;refine cL (v:=.agg (aJ y4 k1)) (off:=0) (new:=aJ y4 k1) rfl rfl rfl cR.size HN.out rfl (show 0 + 17≤17 by decide) (nS HL.out) rfl ?_;intro Wn hp;have hB:=Below.put HB.out hp (by omega);replace HL:=hU (HL.out.put HN.out qXa hp);replace HP:=pO hp HP;replace HB:=hU hB;have HK:=pA hp;clear hp hB HN;refine nt hK ?_;clear hK K;(try simp only [aF])
 refine aZ (by kernel_rfl) (NoPanic.normal ?_) _;refine sg ?_;intros;obtain ⟨Wo,rfl⟩:∃ Wo,Wo=Wn:=⟨_,rfl⟩
 obtain ⟨ta,tc,htt,_,_⟩:=HL.out.t.shape;have HTT:=hU htt;have hte:=HL.out.t;rw [htt] at hte;have HTL:=hU hte.elem.2.2.2;have htl6:k1.t.l.length≤6:=Nat.le_trans HG1.out.inv.tn.len HG1.out.inv.n6;clear hte htt;go_loopw [5,6] (fun pv iv wr=> PlR Wo k1.t.l pid pv iv wr) (fun _ iv _=> k1.t.l.length - (intOf iv).toNat)
 case atStart=> exact ⟨0, -1,Nat.zero_le _,rfl,rfl,by decide,by decide,fun j hj=> by omega,Below.refl _ _⟩
 case round=>
  obtain ⟨i,q,hi,rfl,rfl,hq0,hq1,hqa,hb⟩:=hrel;have HQA:=hU hqa;have HR:=hU hb;have HK1:=nB hb HK;have HP1:=nB hb HP;have HB1:=nW hb HB;clear hqa hb;have c1:wr.cell? ⟨b4,1,none⟩=some (.slice ta k1.t.l.length tc):=(aC HK1.out 1).trans (congrArg some HTT.out);have j0:(0:Int)≤(i:Int):=by omega
  by_cases hil:i<k1.t.l.length
  · have j1:decide ((i:Int)<(k1.t.l.length:Int))=true:=by simp;omega
    have j2:decide (i<k1.t.l.length)=true:=by simp;omega
    have j3:(i:Int)<(k1.t.l.length:Int):=by omega
    obtain ⟨x,hx⟩:∃ x,k1.t.l[i]? =some x:=⟨_,List.getElem?_eq_getElem hil⟩
    obtain ⟨g,off,hga,hgl,hcx⟩:=HTL.out i x hx;subst hga
    have c2:wr.cell? ⟨g,off + i,none⟩=some (.int .i64 x):=by
     have:=hcx wr HR.out 0 _ rfl
     rw [Nat.mul_one,Nat.add_zero] at this;exact this
    have c3:wr.cell? ⟨w.heap.size,3,none⟩=some (.int .i64 pid):=aC HP1.out 3;have z1:b4<wr.heap.size:=hlt HK1.out;have z2:g<wr.heap.size:=Nat.lt_of_lt_of_le hgl HR.out.size;have z3:w.heap.size<wr.heap.size:=hlt HP1.out;have HX:=hU hx;clear hcx hx hgl;by_cases hxp:x=pid
    · have e5:(x==pid)=true:=by simp [hxp]
      clear hxp;repeat' (first|go_values|go_skip|go_guarded|refine wg ?_|go_step|go_upon|go_quiet (fail))
      exact ⟨⟨i + 1,i,by omega,by go_num,rfl,by omega,by omega,fun j hj _=> by omega,blN HR.out⟩,by simp [intOf];omega⟩
    · have e5:(x==pid)=false:=by simpa using hxp
      have HNX:=hU hxp;clear hxp;repeat' (first|go_values|go_skip|go_guarded|refine wg ?_|go_step|go_upon|go_quiet (fail))
      exact ⟨⟨i + 1,q,by omega,by go_num,rfl,by omega,by omega,fun j hj hj2=> by
       by_cases hji:j=i
       · subst hji;rw [HX.out] at hj2;exact absurd (Option.some.inj hj2) HNX.out
       · exact HQA.out j (by omega) hj2,blN HR.out⟩,by simp [intOf];omega⟩
  · have j1:decide ((i:Int)<(k1.t.l.length:Int))=false:=by simp;omega
    have j2:decide (i<k1.t.l.length)=false:=by simp;omega
    by_cases hq:0≤q
    · have e0:decide (0≤q)=true:=by simp [hq]
      obtain ⟨Q,rfl⟩:∃ Q:Nat,q=Q:=⟨q.toNat,by omega⟩
      have hfar:Far k1.t pid (5 * (Q:Int)):=far_start HG1.out (fun j hj=> by have:=HQA.out j (by have:=(List.getElem?_eq_some_iff.1 hj).1;omega) hj;omega);have HF:=hU hfar;have e5:IntKind.i64.wrap (5 * (Q:Int))=5 * (Q:Int):=by rw [IntKind.wrap_i64];omega
      have HLw:=hU (HL.out.below HR.out);clear hfar;refine sg ?_;intros;clear c1 j0 j1 j2 e0;go_loopw [7] (fun nv wr=> FairR w b4 #[.int .i64 mem,.slice ai images.length ci,.int .i64 n,.int .i64 pid] k1 Q pid nv wr) (fun nv _=> 5 * Q - (intOf nv).toNat)
      case atStart=> exact ⟨0,y4,bs4,Nat.zero_le _,rfl,HP1,HK1,HLw,HB1,hU (by rw [show 5 * (Q:Int) - ((0:Nat):Int)=5 * (Q:Int) by omega];exact HF.out)⟩
      case round=>
       clear HP HK HL HB HP1 HK1 HLw HB1 HF HR HQA HTT HTL;obtain ⟨j,y,bs,hj,rfl,HP2,HK2,HL2,HB2,HF2⟩:=hrel;obtain ⟨kj,hkj⟩:∃ k,run j k1=k:=⟨_,rfl⟩
       have hmm:=HMM.out;have hgj:Kn.Good (0 + m + j) kj:=by rw [← hkj];exact HG1.out.run j
       have hlj:LeftOk kj.t:=by rw [← hkj];exact run_left HG1.out HL1.out j
       rw [hkj] at HK2 HL2 HF2;have HGJ:=hU hgj;have HLJ:=hU hlj;have HKJ:=hU hkj;obtain ⟨ua,uc,hut,_,_⟩:=HL2.out.t.shape;have hin:=fun W (hb:Below wr.heap.size wr W)=> TIn y.t kj.t.l pid W (HL2.out.t.below hb);rw [hut] at hin;have HIN:=hU hin;have hue:=HL2.out.t;rw [hut] at hue;have HUE:=hU hue.elem.2.2.2;have c1:wr.cell? ⟨b4,1,none⟩=some (.slice ua kj.t.l.length uc):=(aC HK2.out 1).trans (congrArg some hut);have c3:wr.cell? ⟨w.heap.size,3,none⟩=some (.int .i64 pid):=aC HP2.out 3;have z1:b4<wr.heap.size:=hlt HK2.out;have z3:w.heap.size<wr.heap.size:=hlt HP2.out;clear hin hue hut hkj hgj hlj;by_cases hjl:j<5 * Q
       · have d1:decide ((j:Int)<5 * (Q:Int))=true:=by simp;omega
         refine sg ?_;intros;refine (HIN.out _ (Below.refl _ _)).mono ?_;rintro er Wx ⟨rfl,rfl⟩;obtain ⟨hs,hhs⟩:∃ b,kj.t.l.contains pid=b:=⟨_,rfl⟩
         rw [hhs];dsimp only;clear d1 HIN;cases hs
         · repeat' (first|go_values|go_skip|go_guarded|refine wg ?_|go_step|go_upon|go_quiet (fail))
           go_ret;exact cF rfl (blN HB2.out)
         · have hmem:pid ∈ kj.t.l:=List.contains_iff_mem.1 hhs;obtain ⟨x,hx⟩:∃ x,kj.t.l[0]? =some x:=⟨_,List.getElem?_eq_getElem (List.length_pos_of_mem hmem)⟩
           obtain ⟨g,off,hga,hgl,hcx⟩:=HUE.out 0 x hx;subst hga
           have c2:wr.cell? ⟨g,off,none⟩=some (.int .i64 x):=by
            have:=hcx wr (Below.refl _ _) 0 _ rfl
            rw [Nat.zero_mul] at this;exact this
           have l0:(0:Int)<(kj.t.l.length:Int):=by have:=List.length_pos_of_mem hmem;omega
           have l1:0<kj.t.l.length:=by omega
           have z2:g<wr.heap.size:=hgl;have HME:=hU hmem;have HX:=hU hx;clear hcx hx hgl hhs hmem HUE;by_cases hxp:x=pid
           · have e6:(x==pid)=true:=by simp [hxp]
             clear hxp;repeat' (first|go_values|go_skip|go_guarded|refine wg ?_|go_step|go_upon|go_quiet (fail))
             go_ret;exact cF rfl (blN HB2.out)
           · have e6:(x==pid)=false:=by simpa using hxp
             have hwt:Wt kj.t pid (5 * (Q:Int) - (j:Int)):=⟨HLJ.out,HME.out,by rw [List.head?_eq_getElem?,HX.out];exact fun e=> hxp (Option.some.inj e),HF2.out⟩
             have hf3:=step_far HGJ.out.inv HGJ.out.life hwt;rw [show 5 * (Q:Int) - (j:Int) - 1=5 * (Q:Int) - ((j + 1:Nat):Int) by omega] at hf3;have HF3:=hU hf3;clear hf3 hwt;clear hxp
             repeat' (first
              |(refine aE (t:=41) (v:=.agg (aJ y kj)) rfl rfl rfl (aD cR HK2.out rfl) ?_)
              |go_values|go_skip|go_guarded|refine wg ?_|go_step|go_upon
              |go_quiet (fail))
             have hbd:Below wr.heap.size wr (wr.drewN nq):=blN (Below.refl _ _);replace HP2:=nB hbd HP2;replace HK2:=nB hbd HK2;replace HL2:=nL hbd HL2;replace HB2:=nW hbd HB2;clear hbd c1 c2 c3 z1 z2 z3 l0 l1;refine (qYw _ kj _ ⟨y,bs,rfl,HL2.out⟩ (HGJ.out.ready (by omega)) (HT.out _ HB2.out)).mono ?_;rintro er W1 ⟨v1,rfl,⟨y1,bs1,rfl,hl1⟩,hb1⟩;replace HP2:=nB hb1 HP2;replace HK2:=nB hb1 HK2;replace HB2:=nW hb1 HB2;have HLn:=hU hl1;clear hb1 hl1 HL2;dsimp only
             repeat' (first
              |(refine sN 41 (.agg (aJ y1 (Kn.step kj))) 0 (aJ y1 (Kn.step kj)) cR.size HK2.out (nS HLn.out) fun W2 hp=> ?_
                have HB3:=hU (Below.put HB2.out hp (by omega));have HP3:=pO hp HP2;have HL3:=hU (HLn.out.put HK2.out qXa hp);have HK3:=pA hp;clear hp)
              |go_values|go_skip|go_guarded|refine wg ?_|go_step|go_upon)
             exact ⟨⟨j + 1,y1,bs1,by omega,by go_num,HP3,by rw [qQc,HKJ.out];exact HK3,by rw [qQc,HKJ.out];exact HL3,HB3,by rw [qQc,HKJ.out];exact HF3⟩,by simp [intOf];omega⟩
       · have d1:decide ((j:Int)<5 * (Q:Int))=false:=by simp;omega
         refine sg ?_;intros;refine (HIN.out _ (Below.refl _ _)).mono ?_;rintro er Wx ⟨rfl,rfl⟩;obtain ⟨hs,hhs⟩:∃ b,kj.t.l.contains pid=b:=⟨_,rfl⟩
         rw [hhs];dsimp only;clear d1 HIN;cases hs
         · repeat' (first|go_values|go_skip|go_guarded|refine wg ?_|go_step|go_upon|go_quiet (fail))
           go_ret;exact cF rfl (blN HB2.out)
         · have hmem:pid ∈ kj.t.l:=List.contains_iff_mem.1 hhs
           have hf0:Far kj.t pid 0:=by
            have:=HF2.out
            rw [show 5 * (Q:Int) - (j:Int)=0 by omega] at this;exact this
           have hx:=far_end hf0 HLJ.out hmem;rw [List.head?_eq_getElem?] at hx;obtain ⟨g,off,hga,hgl,hcx⟩:=HUE.out 0 pid hx;subst hga
           have c2:wr.cell? ⟨g,off,none⟩=some (.int .i64 pid):=by
            have:=hcx wr (Below.refl _ _) 0 _ rfl
            rw [Nat.zero_mul] at this;exact this
           have l0:(0:Int)<(kj.t.l.length:Int):=by have:=List.length_pos_of_mem hmem;omega
           have l1:0<kj.t.l.length:=by omega
           have z2:g<wr.heap.size:=hgl;clear hcx hx hgl hhs hmem HUE hf0;repeat' (first|go_values|go_skip|go_guarded|refine wg ?_|go_step|go_upon|go_quiet (fail))
           go_ret;exact cF (by simp) (blN HB2.out)
    · have e0:decide (0≤q)=false:=by simp;omega
      refine sg ?_;intros;clear c1 j0 j1 j2 e0 HQA hq0 hq1 hq HTT HTL;have HL1w:=hU (HL.out.below HR.out);clear HP HK HL HB;obtain ⟨W8,rfl⟩:∃ W8,W8=wr:=⟨_,rfl⟩
      obtain ⟨sa,sc,hss,_,_⟩:=HL1w.out.s.shape;have HSS:=hU hss;have hse:=HL1w.out.s;rw [hss] at hse;have HSE:=hU hse.elem.2.2.2;clear hse hss HR;go_loopw [10] (fun iv wr=> ZeR W8 k1.s.length iv wr) (fun iv _=> k1.s.length - (intOf iv).toNat)
      case atStart=> exact ⟨0,Nat.zero_le _,rfl,hU (Below.refl _ _)⟩
      case round=>
       obtain ⟨e,he,rfl,HR⟩:=hrel;have HK2:=nB HR.out HK1;have HP2:=nB HR.out HP1;have HB2:=nW HR.out HB1;have c1:wr.cell? ⟨b4,3,none⟩=some (.slice sa k1.s.length sc):=(aC HK2.out 3).trans (congrArg some HSS.out);have j0:(0:Int)≤(e:Int):=by omega
       by_cases hil:e<k1.s.length
       · have j1:decide ((e:Int)<(k1.s.length:Int))=true:=by simp;omega
         have j2:decide (e<k1.s.length)=true:=by simp;omega
         have j3:(e:Int)<(k1.s.length:Int):=by omega
         obtain ⟨a,hx⟩:∃ a,k1.s[e]? =some a:=⟨_,List.getElem?_eq_getElem hil⟩
         have hup:=HU1.out a (List.mem_of_getElem? hx);obtain ⟨g,off,hga,hgl,hcx⟩:=HSE.out e a hx;subst hga;have HCA:=hU (fun W (hb:Below W8.heap.size W8 W)=> (⟨hcx W hb 0 _ rfl,hcx W hb 1 _ rfl⟩:W.cell? ⟨g,off + e * 2,none⟩=some (.int .u64 a.at_)∧W.cell? ⟨g,off + e * 2 + 1,none⟩=some (.int .i64 a.pid)));obtain ⟨c4,c5⟩:=HCA.out wr HR.out;have c3:wr.cell? ⟨w.heap.size,3,none⟩=some (.int .i64 pid):=aC HP2.out 3;have c7:wr.cell? ⟨b4,7,none⟩=some (.int .u64 k1.now):=aC HK2.out 7;have z1:b4<wr.heap.size:=hlt HK2.out;have z2:g<wr.heap.size:=Nat.lt_of_lt_of_le hgl HR.out.size;have z3:w.heap.size<wr.heap.size:=hlt HP2.out;have hn0:0≤k1.now:=HG1.out.now0;have hn9:k1.now≤600:=by rw [HN1.out];have:=HMM.out;omega
         have HSZ:=hU hgl;clear hcx hx hgl;by_cases hap:a.pid=pid
         · have e1:(a.pid !=pid)=false:=by simp [hap]
           by_cases han:a.at_<k1.now
           · have e2:decide (a.at_<k1.now)=true:=by simp [han]
             clear hap han;repeat' (first|go_values|go_skip|go_guarded|refine wg ?_|go_step|go_upon|go_quiet (fail))
             exact ⟨⟨e + 1,by omega,by go_num,hU blN HR.out⟩,by simp [intOf];omega⟩
           · have e2:decide (a.at_<k1.now)=false:=by simp;omega
             have e3:IntKind.u64.wrap (a.at_ - k1.now)=a.at_ - k1.now:=by rw [IntKind.wrap_u64];omega
             by_cases ha3:300<a.at_ - k1.now
             · have e4:decide (300<a.at_ - k1.now)=true:=by simp [ha3]
               clear hap han ha3;repeat' (first|go_values|go_skip|go_guarded|refine wg ?_|go_step|go_upon|go_quiet (fail))
               exact ⟨⟨e + 1,by omega,by go_num,hU blN HR.out⟩,by simp [intOf];omega⟩
             · have e4:decide (300<a.at_ - k1.now)=false:=by simp;omega
               obtain ⟨d,hd⟩:∃ d:Nat,a.at_ - k1.now=d:=⟨(a.at_ - k1.now).toNat,by omega⟩
               have hd3:d≤300:=by omega
               rw [hd] at e3 e4;have HD:=hU hd;have HAP:=hU hap;clear ha3 han hap;repeat' (first|(rw [HD.out])|go_values|go_skip|go_guarded|refine wg ?_|go_step|go_upon|go_quiet (fail))
               have hmm:=HMM.out;have hg1:=HG1.out;obtain ⟨k2,hk2⟩:∃ k,run (d + 1) k1=k:=⟨_,rfl⟩
               have hru:=fun W (hl:aH W y4 bs4 k1) ht=> SRun (.agg (aJ y4 k1)) k1 (d + 1) ((d:Int) + 1) W ⟨y4,bs4,rfl,hl⟩ (by omega) (by omega) (fun i hi=> (hg1.run i).ready (by omega)) ht;rw [hk2] at hru;have HRU:=hU hru
               have HLT:Hid (∀ b ∈ k2.s,a.at_<b.at_):=hU (by
                have:=run_late hg1 HU1.out d (by omega)
                rw [hk2] at this;exact fun b hb=> by have:=this b hb;have:=HD.out;omega)
               have e6:IntKind.i64.wrap (d:Int)=(d:Int):=by rw [IntKind.wrap_i64];omega
               have e7:IntKind.i64.wrap ((d:Int) + 1)=(d:Int) + 1:=by rw [IntKind.wrap_i64];omega
               clear hru hg1 hk2 hmm c1 c3 c4 c5 c7 e4 e1 e2;have hbd9:Below wr.heap.size wr (wr.drewN nq):=blN (Below.refl _ _);obtain ⟨Wn,hWn9⟩:=exW (wr.drewN nq);rw [hWn9] at hbd9 ⊢;replace HR:=hU (HR.out.trans (hbd9.mono HR.out.size));replace HB2:=nW hbd9 HB2;replace HK2:=nB hbd9 HK2;replace HP2:=nB hbd9 HP2;clear hbd9 hWn9;refine wp_region_noPanic ?_;refine go0 (S:=fun W=> W.heap[b4]? =some (.cells (aJ y4 k1) 41 (0,0))∧W.cell? ⟨b4,3,none⟩=some (.slice (some ⟨g,off,none⟩) k1.s.length sc)∧W.cell? ⟨g,off + e * 2,none⟩=some (.int .u64 a.at_)∧W.cell? ⟨b4,7,none⟩=some (.int .u64 k1.now)) [14] (⟨HK2.out,(aC HK2.out 3).trans (congrArg some HSS.out),(HCA.out _ HR.out.drew).1,aC HK2.out 7⟩) fun hS=> ?_;obtain ⟨Wd,hWd⟩:=exW Wn.drew;have hbd:=dW hWd;replace HP2:=nB hbd HP2;replace HK2:=nB hbd HK2;replace HB2:=nW hbd HB2;replace HR:=hU (HR.out.trans (hbd.mono HR.out.size));rw [hWd] at hS ⊢;clear hWd hbd;refine tv 0 (.agg (aJ y4 k1)) (fun W hSW=> aR rfl rfl (aD cR hSW.1 rfl)) ?_;(try simp only [aF])
               refine tp 1 ?_;(try simp only [aF])
               refine tl 2 ?_;(try simp only [aF])
               refine tp 3 ?_;(try simp only [aF])
               refine tp 4 ?_;(try simp only [aF])
               refine tp 5 ?_;(try simp only [aF])
               refine tl 6 ?_;(try simp only [aF])
               refine tp 7 ?_;(try simp only [aF])
               refine tl 8 ?_;(try simp only [aF])
               refine tp 9 ?_;(try simp only [aF])
               refine tp 10 ?_;(try simp only [aF])
               refine tp 11 ?_;(try simp only [aF])
               clear hS;revert HP2 HK2 HB2 HR;apply joinF3 (F:=fun (b6:Nat) (y5:Lay) (W:World)=> Hid (W.heap[w.heap.size]? =some (.cells #[.int .i64 mem,.slice ai images.length ci,.int .i64 n,.int .i64 pid] 24 (0,0)))∧Hid (W.heap[b4]? =some (.cells (aJ y4 k1) 41 (0,0)))∧Hid (Below w.heap.size w W)∧Hid (Below W8.heap.size W8 W)∧Hid (W.heap[b6]? =some (.cells zSe 41 (0,0)))∧b4<b6∧W8.heap.size≤b6∧w.heap.size≤b6∧Hid (∃ bs,aH W y5 bs k2))
               case h2=>
                intro hj HP2 HK2 HB2 HR;refine oT (i:=12) (j:=13) (by kernel_rfl) rfl rfl (fun K hK=> ?_) (fun K hK=> ?_)
                · refine want rfl ?_;go_simp;(try simp only [hd,e3,e6,e7])
                  refine (HRU.out _ (HL1w.out.below HR.out) (HT.out _ HB2.out)).mono ?_;rintro er Wr ⟨vK,rfl,⟨y5,bs5,rfl,hl⟩,hb⟩;replace HP2:=nB hb HP2;replace HK2:=nB hb HK2;replace HB2:=nW hb HB2;replace HR:=hU (HR.out.trans (hb.mono HR.out.size));have HDD:Hid (∃ bs,aH Wr y5 bs k2):=hU ⟨bs5,hl⟩;clear hb hl;dsimp only;refine nx hK (⟨HK2.out,(aC HK2.out 3).trans (congrArg some HSS.out),(HCA.out _ HR.out).1,aC HK2.out 7⟩) fun hS=> ?_;clear hK K hS;(try simp only [aF])
                  refine ro 13 fun K hK=> ?_;go_simp;obtain ⟨b6,hab,hbz⟩:=nbz HB2;have hbn:=nlt HK2 hab;have hbr:=HR.out.size;rw [hab] at hbr;obtain ⟨Wa,hWn,hba,HN⟩:=nb1 (W:=_) (.cells zSe 41) hab;rw [hWn];clear hWn;replace HP2:=nB hba HP2;replace HK2:=nB hba HK2;replace HB2:=nW hba HB2;replace HR:=hU (HR.out.trans (hba.mono HR.out.size));replace HDD:=hU (HDD.out.imp fun _ h=> h.below hba);clear hba;try rw [hab]
                  clear hab;refine nx hK (⟨HK2.out,(aC HK2.out 3).trans (congrArg some HSS.out),(HCA.out _ HR.out).1,aC HK2.out 7⟩) fun hS=> ?_;clear hK K hS;(try simp only [aF])
                  exact hj b6 y5 Wa ⟨HP2,HK2,HB2,HR,HN,hbn,hbr,hbz,HDD⟩
                · go_simp;obtain ⟨b6,hab,hbz⟩:=nbz HB2;have hbn:=nlt HK2 hab;have hbr:=HR.out.size;rw [hab] at hbr;obtain ⟨Wa,hWn,hba,HN⟩:=nb1 (W:=_) (.cells zSe 41) hab;rw [hWn];clear hWn;replace HP2:=nB hba HP2;replace HK2:=nB hba HK2;replace HB2:=nW hba HB2;replace HR:=hU (HR.out.trans (hba.mono HR.out.size));clear hba;try rw [hab]
                  clear hab;refine nx hK (⟨HK2.out,(aC HK2.out 3).trans (congrArg some HSS.out),(HCA.out _ HR.out).1,aC HK2.out 7⟩) fun hS=> ?_;clear hK K hS;(try simp only [aF])
                  refine ro 12 fun K hK=> ?_;refine want rfl ?_;go_simp;(try simp only [hd,e3,e6,e7])
                  refine (HRU.out _ (HL1w.out.below HR.out) (HT.out _ HB2.out)).mono ?_;rintro er Wr ⟨vK,rfl,⟨y5,bs5,rfl,hl⟩,hb⟩;replace HP2:=nB hb HP2;replace HK2:=nB hb HK2;replace HB2:=nW hb HB2;replace HR:=hU (HR.out.trans (hb.mono HR.out.size));replace HN:=nB hb HN;have HDD:Hid (∃ bs,aH Wr y5 bs k2):=hU ⟨bs5,hl⟩;clear hb hl;dsimp only;refine nx hK (⟨HK2.out,(aC HK2.out 3).trans (congrArg some HSS.out),(HCA.out _ HR.out).1,aC HK2.out 7⟩) fun hS=> ?_;clear hK K hS;(try simp only [aF])
                  exact wpL_cast (hj b6 y5 Wr ⟨HP2,HK2,HB2,HR,HN,hbn,hbr,hbz,HDD⟩)
               rintro b6 y5 Wn ⟨HP2,HK2,HB2,HR,HN,hbn,hbr,hbz,HDD⟩;obtain ⟨bs5,hl5⟩:=HDD.out;have HL5:=hU hl5;clear hl5 HDD HRU;refine ro 14 fun K hK=> ?_;refine want rfl ?_;refine cL (v:=.agg (aJ y5 k2)) (off:=0) (new:=aJ y5 k2) rfl rfl rfl cR.size HN.out rfl (show 0 + 17≤17 by decide) (nS HL5.out) rfl ?_;intro Wn hp;replace HB2:=hU (Below.put HB2.out hp (by omega));replace HR:=hU (Below.put HR.out hp (by omega));replace HL5:=hU (HL5.out.put HN.out qXa hp);replace HP2:=pO hp HP2;replace HK2:=pO hp HK2;have HK6:=pA hp;clear hp HN;refine nt hK ?_;clear hK K;(try simp only [aF])
               refine aZ (by kernel_rfl) (NoPanic.normal ?_) _;refine sg ?_;intros;obtain ⟨W9,rfl⟩:∃ W9,W9=Wn:=⟨_,rfl⟩
               obtain ⟨ra,rc,hrr,_,_⟩:=HL5.out.s.shape;have HRR:=hU hrr;have hre:=HL5.out.s;rw [hrr] at hre;have HRE:=hU hre.elem.2.2.2;clear hre hrr;go_loopw [12] (fun iv wr=> ZeR W9 k2.s.length iv wr) (fun iv _=> k2.s.length - (intOf iv).toNat)
               case atStart=> exact ⟨0,Nat.zero_le _,rfl,hU (Below.refl _ _)⟩
               case round=>
                obtain ⟨u,hu,rfl,HR9⟩:=hrel;have HK3:=nB HR9.out HK2;have HP3:=nB HR9.out HP2;have HK7:=nB HR9.out HK6;have HRo:=hU (HR.out.trans (HR9.out.mono HR.out.size));have d1:wr.cell? ⟨b6,3,none⟩=some (.slice ra k2.s.length rc):=(aC HK7.out 3).trans (congrArg some HRR.out);have k0:(0:Int)≤(u:Int):=by omega
                by_cases hul:u<k2.s.length
                · have k1':decide ((u:Int)<(k2.s.length:Int))=true:=by simp;omega
                  have k2':decide (u<k2.s.length)=true:=by simp;omega
                  have k3':(u:Int)<(k2.s.length:Int):=by omega
                  obtain ⟨b,hx⟩:∃ b,k2.s[u]? =some b:=⟨_,List.getElem?_eq_getElem hul⟩
                  have hlate:=HLT.out b (List.mem_of_getElem? hx);obtain ⟨g2,off2,hga,hgl,hcx⟩:=HRE.out u b hx;subst hga;have d4:wr.cell? ⟨g2,off2 + u * 2,none⟩=some (.int .u64 b.at_):=hcx wr HR9.out 0 _ rfl;have d5:wr.cell? ⟨g2,off2 + u * 2 + 1,none⟩=some (.int .i64 b.pid):=hcx wr HR9.out 1 _ rfl;obtain ⟨c4,c5⟩:=HCA.out wr HRo.out;have c1:wr.cell? ⟨b4,3,none⟩=some (.slice (some ⟨g,off,none⟩) k1.s.length sc):=(aC HK3.out 3).trans (congrArg some HSS.out);have c3:wr.cell? ⟨w.heap.size,3,none⟩=some (.int .i64 pid):=aC HP3.out 3;have y1:b4<wr.heap.size:=hlt HK3.out;have y2:g<wr.heap.size:=Nat.lt_of_lt_of_le HSZ.out HRo.out.size;have y3:w.heap.size<wr.heap.size:=hlt HP3.out;have y6:b6<wr.heap.size:=hlt HK7.out;have y7:g2<wr.heap.size:=Nat.lt_of_lt_of_le hgl HR9.out.size;have e9:decide (b.at_≤a.at_)=false:=by simp;omega
                  clear hcx hx hgl hlate;by_cases hbp:b.pid=pid
                  · have e10:(b.pid==pid)=true:=by simp [hbp]
                    clear hbp;repeat' (first|go_values|go_skip|go_guarded|refine wg ?_|go_step|go_upon|go_quiet (fail))
                    exact ⟨⟨u + 1,by omega,by go_num,hU (blN HR9.out)⟩,by simp [intOf];omega⟩
                  · have e10:(b.pid==pid)=false:=by simpa using hbp
                    clear hbp;repeat' (first|go_values|go_skip|go_guarded|refine wg ?_|go_step|go_upon|go_quiet (fail))
                    exact ⟨⟨u + 1,by omega,by go_num,hU (blN HR9.out)⟩,by simp [intOf];omega⟩
                · have k1':decide ((u:Int)<(k2.s.length:Int))=false:=by simp;omega
                  have k2':decide (u<k2.s.length)=false:=by simp;omega
                  refine sg ?_;intros;exact ⟨⟨e + 1,by omega,by go_num,HRo⟩,by simp [intOf];omega⟩
         · have e1:(a.pid !=pid)=true:=by simpa using hap
           clear hap;repeat' (first|go_values|go_skip|go_guarded|refine wg ?_|go_step|go_upon|go_quiet (fail))
           exact ⟨⟨e + 1,by omega,by go_num,hU blN HR.out⟩,by simp [intOf];omega⟩
       · have j1:decide ((e:Int)<(k1.s.length:Int))=false:=by simp;omega
         have j2:decide (e<k1.s.length)=false:=by simp;omega
         refine sg ?_;intros;go_ret;exact cF rfl HB2.out
end Hy
end Go.Proofs.YtfncknignkndiaaGreatDoor
namespace Go.Proofs.YtfncknignkndiaaGreatDoor.lawTopFair
open Go.ChangeShapes Go.WideShapes Go.ChangeAt Go.RowKit
theorem contract (H:Type) (enc:TypeId × Value→H) (W:World) (base:Nat) (args:Array Value) (ds gs:List (DataW H)) (before:List MemPlace)
 (hval:∀ (j:Nat) t v,Tryz.f3.params[j]? =some t→args[j]? =some v→Value.okWide Tryz.prog W .any base t v)
 (hW:DataW.Whole enc Tryz.prog Tryz.f3.params.toList Rows.topFairSpec.vars false W args.toList ds gs before) (hL:laidMetH Tryz.prog Rows.topFairRow.laid W)
 (hr:(DataW.weightsEach Tryz.prog (Tryz.f3.params.toList ++ (OpenSpec.ofChange Rows.topFairSpec).bare.plain.varTypes Tryz.prog) (ds ++ gs)).all (· ≤reachBytes)=true):
 Calls Tryz.prog 3 args W fun e W'=> ∃ v,e=.returned v∧Rows.topFairSpec.post enc Tryz.prog Tryz.f3 false true false false W args v W':=by
 have hW':=hW;obtain ⟨p,q,hA0,hV,rfl,hfz,hnd⟩:=hW;have hA:DataW.TrodAll enc Tryz.prog W 0 (fun _=> true) true Tryz.f3.params.toList args.toList ds p:=hA0;rw [Tryz.params3] at hA hval;obtain ⟨v0,d0,rfl,rfl,h0⟩:=trodAll_one hA;obtain ⟨rfl,rfl⟩:=trodVars_none hV;obtain ⟨mem,iv,images,n,pid,rfl,him,m0,m1⟩:=Hy.open_inTopFair (hval 0 24 v0 rfl rfl) h0;refine (Hy.LTopFair mem iv images n pid W him m0 m1 (xAo hL)).mono fun e W' ⟨he,hb⟩=> ?_;subst he;exact ⟨_,rfl,law_post (tb:=4) hW' rfl rfl rfl rfl (by kernel_rfl) Tryz.underlying4 qYd (by rw [Tryz.params3];decide +kernel) hb⟩
abbrev qQt:Array Value:=#[.agg #[.int .i64 0,.slice none 0 0,.int .i64 0,.int .i64 0]]
theorem laid_met (os:Os):laidMet Tryz.prog Rows.topFairRow.laid ((laidWorld os).forCall (fun _ _=> 0) ⟨#[],qQt,[]⟩).memory:=
 laidMet_of_run' 8 (by kernel_rfl) (by kernel_rfl)
theorem reads (os:Os) {H:Type} (enc:TypeId × Value→H):∃ places,DataW.whole enc Tryz.prog ((laidWorld os).forCall (fun _ _=> 0) ⟨#[],qQt,[]⟩).memory Tryz.f3.params.toList Rows.topFairSpec.vars false qQt.toList 8=some ([.agg [.lit (.int .i64 0),.nil,.lit (.int .i64 0),.lit (.int .i64 0)]],[],places):=
 ⟨[],by kernel_rfl⟩
theorem lifted (os:Os) (started:os.Started) (H:Type) (enc:TypeId × Value→H) (F:Stop.Interp):
 ReturnsInHanded {} Tryz.checked os 3 .any ((OpenSpec.ofChange Rows.topFairSpec).preRow enc Tryz.prog Tryz.f3 Rows.topFairRow.domain false Rows.topFairRow.laid) (((OpenSpec.ofChange Rows.topFairSpec).at F).post enc Tryz.prog Tryz.f3 false true false false):=by
 obtain ⟨places,hx⟩:=reads os enc
 refine returnsInHanded_of_row (C:=Tryz.checked) (s:=OpenSpec.ofChange Rows.topFairSpec) own started (by kernel_rfl) Tryz.func3
  (witness_row_at (enc:=enc) (C:=Tryz.checked) false (laidWorld os) qQt rfl (by kernel_rfl) (by kernel_rfl) (by kernel_rfl)
    (OpenSpec.preRow_of_cond 8 hx (by kernel_rfl) (fun k hk=> by cases hk) (by kernel_rfl) (laid_met os))) ?_
 intro W base args ds gs before hval hW _ hcond hr hL _ _;exact contract H enc W base args ds gs before hval hW hL hr
theorem j0:(Rows.topFairRow.inPlace==Tryz.pinned.checked.prog.inPlace 3)=true:=by kernel_rfl
theorem j1:(Rows.topFairRow.unfollowed==Tryz.pinned.checked.prog.unfollowed 3)=true:=by kernel_rfl
theorem j2:(Rows.topFairRow.recurses==Tryz.pinned.checked.prog.recurses 3)=true:=by kernel_rfl
theorem j3:(Rows.topFairRow.named==Tryz.pinned.checked.prog.varsNamed 3)=true:=by kernel_rfl
theorem facts:joinedFacts Tryz.pinned.checked.prog 3 Tryz.f3 (OpenSpec.ofChange Rows.topFairSpec).bare Rows.topFairRow=true:=by
 unfold joinedFacts;rw [j0,j1,j2,j3];kernel_rfl
theorem said:Rows.TopFairSaid:=
 OpenClaim.holds_of_cond 3 Tryz.f3 rfl rfl rfl rfl rfl rfl rfl ⟨rfl,rfl,rfl,rfl,rfl⟩ rfl rfl rfl rfl rfl (by kernel_rfl) Tryz.func3 facts
  (of_decide_eq_true (by kernel_rfl)) (by unfold Func.isWrapper;first|(rw [if_pos (by decide +kernel)];kernel_rfl)|(rw [if_neg (by decide +kernel)];exact ⟨rfl,rfl⟩))
  (fun os started H enc _ F=> by rw [OpenClaim.pre_eq_preRow];exact lifted os started H enc F)
theorem plain (f:FuncId) (fn:Func) (hf:Tryz.pinned.checked.prog.funcNamed "transom/transomtop.TopFair" =some f) (hfn:Tryz.pinned.checked.prog.funcs[f]? =some fn):
 false=Tryz.pinned.checked.prog.looks []∧∀ (j:Nat) t,fn.params[j]? =some t→Tryz.pinned.checked.prog.wantsStandIn t=false:=by
 obtain rfl:f=3:=Option.some.inj ((show Tryz.prog.funcNamed "transom/transomtop.TopFair" =some 3 by kernel_rfl).symm.trans hf)|>.symm
 obtain rfl:fn=Tryz.f3:=(Option.some.inj (Tryz.func3.symm.trans hfn)).symm;refine ⟨qYe,fun j t ht=> ?_⟩;have hm:=Array.mem_of_getElem? ht;rw [Tryz.params3] at hm;have hall:∀ t ∈ (#[24]:Array TypeId),Tryz.prog.wantsStandIn t=false:=by decide +kernel
 exact hall t hm
theorem card:Rows.TopFairCardSaid:=
 Claim7.holds_tied_plain_at .later [] _ _ _ _ said (fun _ h=> by cases h) (by kernel_rfl) (fun _ h=> by cases h) topFair_row_tie rfl ⟨rfl,rfl⟩ (by kernel_rfl) rfl plain (by kernel_rfl)
#print axioms card
end Go.Proofs.YtfncknignkndiaaGreatDoor.lawTopFair
