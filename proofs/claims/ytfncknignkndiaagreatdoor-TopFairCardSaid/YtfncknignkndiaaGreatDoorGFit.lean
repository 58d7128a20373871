/- What the methods ask of a guest, in one; which function tries a call. Conditions: as told. -/
import Derived.Test.YtfncknignkndiaaGreatDoorGTri
import Derived.Test.YtfncknignkndiaaGreatDoorGSW
import Derived.Test.YtfncknignkndiaaGreatDoorKwReads
import Derived.Test.YtfncknignkndiaaGreatDoorKwCloses
import Derived.Test.YtfncknignkndiaaGreatDoorKwRecvs
set_option linter.unusedVariables false
set_option linter.unusedSimpArgs false
namespace Go.Proofs.YtfncknignkndiaaGreatDoor
open Tryz
open Go.RowKit KR
namespace Kn
structure Fit (k:aI):Prop where
 n:k.p.length≤1000
 t:k.t.l.length≤1000000
 tl: -4611686018427387904≤k.t.left∧k.t.left≤4611686018427387904
 a:k.s.length≤1000000
 pl:k.aG.length≤1000000
 pb:PB 1000000 k.aG
 pd:∀ q ∈ k.aG,q.data.size≤1000000
 hl:k.h.length≤1000000
 hs0: -9223372036854775808≤k.hs
 hs1:k.hs≤9223372036854775807
 pid:∀ q ∈ k.p,q.pid≤4611686018427387904
 mem:∀ q ∈ k.p,q.mem.size≤1000000
 tr:k.trace.length≤1000000
 se:k.sent.length≤1000000
 bl:k.box.length≤1000000
 bd:∀ q ∈ k.box,∀ m ∈ q.l,m.body.size≤140737488355328
 co:k.cons.size≤1000000000
 now0:0≤k.now
 now1:k.now≤18446744073709551615
 im:k.images.length≤1000000
structure nD (x:Call):Prop where
 a0:0≤x.a
 a1:x.a<4294967296
 b0:0≤x.b
 b1:x.b<4294967296
 c0:0≤x.c
 c1:x.c<4294967296
theorem qMx (b:Nat) {k:aI} {p:Proc} {x:Call} (hf:Fit k) (hm:p.mem.size≤1000000) (hx:nD x):
 (∃ f,sL x.n=(.func (.func f) #[] #[],true)∧Enters prog f∧∀ W,cH W b k→Calls prog f #[.pointer (some ⟨b,0,none⟩),.agg p.cells,.agg x.cells] W (eN b (.tuple #[.int .u32 (aW k p x).v,.int .i64 (aW k p x).e]) (aW k p x).k W))∨
 (sL x.n=(.nilFunc,false)∧aW k p x=⟨k,0,1⟩):=by
 have hn:k.p.length≤1000000:=Nat.le_trans hf.n (by omega);by_cases h4:x.n=4
 · refine .inl ⟨172,by rw [h4];rfl,enters_of func172 (by kernel_rfl) rfl,fun W hW=> ?_⟩;rw [aW,if_pos h4];exact qZc b k p x W hW hn
 by_cases h6:x.n=6
 · refine .inl ⟨173,by rw [h6];rfl,enters_of func173 (by kernel_rfl) rfl,fun W hW=> ?_⟩;rw [aW,if_neg h4,if_pos h6];exact WPid b k p x W hW
 by_cases h9:x.n=9
 · refine .inl ⟨174,by rw [h9];rfl,enters_of func174 (by kernel_rfl) rfl,fun W hW=> ?_⟩;rw [aW,if_neg h4,if_neg h6,if_pos h9];exact qZb b k p x W hW
 by_cases h10:x.n=10
 · refine .inl ⟨175,by rw [h10];rfl,enters_of func175 (by kernel_rfl) rfl,fun W hW=> ?_⟩;rw [aW,if_neg h4,if_neg h6,if_neg h9,if_pos h10];exact qZa b k p x W hW hf.co
 by_cases h11:x.n=11
 · refine .inl ⟨176,by rw [h11];rfl,enters_of func176 (by kernel_rfl) rfl,fun W hW=> ?_⟩;rw [aW,if_neg h4,if_neg h6,if_neg h9,if_neg h10,if_pos h11];exact qWd b k p x W hW hn hf.pl
 by_cases h12:x.n=12
 · refine .inl ⟨177,by rw [h12];rfl,enters_of func177 (by kernel_rfl) rfl,fun W hW=> ?_⟩;rw [aW,if_neg h4,if_neg h6,if_neg h9,if_neg h10,if_neg h11,if_pos h12];exact qRx b k p x W hW hf.pl hm hf.pd hx.a0 hx.a1 hx.b0 hx.b1 hx.c0 hx.c1
 by_cases h13:x.n=13
 · refine .inl ⟨178,by rw [h13];rfl,enters_of func178 (by kernel_rfl) rfl,fun W hW=> ?_⟩;rw [aW,if_neg h4,if_neg h6,if_neg h9,if_neg h10,if_neg h11,if_neg h12,if_pos h13];exact qWe b k p x W hW hn hf.pl hm hf.pd hx.a0 hx.a1 hx.b0 hx.b1 hx.c0 hx.c1
 by_cases h14:x.n=14
 · refine .inl ⟨179,by rw [h14];rfl,enters_of func179 (by kernel_rfl) rfl,fun W hW=> ?_⟩;rw [aW,if_neg h4,if_neg h6,if_neg h9,if_neg h10,if_neg h11,if_neg h12,if_neg h13,if_pos h14];exact qRo b k p x W hW hn hf.pl hf.pb hx.a0 hx.a1
 by_cases h15:x.n=15
 · refine .inl ⟨180,by rw [h15];rfl,enters_of func180 (by kernel_rfl) rfl,fun W hW=> ?_⟩;rw [aW,if_neg h4,if_neg h6,if_neg h9,if_neg h10,if_neg h11,if_neg h12,if_neg h13,if_neg h14,if_pos h15];exact qWg b k p x W hW hf.se hm hx.a0 hx.a1 hx.b0 hx.b1 hx.c0 hx.c1
 by_cases h16:x.n=16
 · refine .inl ⟨181,by rw [h16];rfl,enters_of func181 (by kernel_rfl) rfl,fun W hW=> ?_⟩;rw [aW,if_neg h4,if_neg h6,if_neg h9,if_neg h10,if_neg h11,if_neg h12,if_neg h13,if_neg h14,if_neg h15,if_pos h16];exact qWf b k p x W hW hn hf.bl hf.bd hm hx.a0 hx.a1 hx.b0 hx.b1 hx.c0 hx.c1
 · refine .inr ⟨qQk h4 h6 h9 h10 h11 h12 h13 h14 h15 h16,?_⟩;rw [aW,if_neg h4,if_neg h6,if_neg h9,if_neg h10,if_neg h11,if_neg h12,if_neg h13,if_neg h14,if_neg h15,if_neg h16]
theorem SlP.qEq {W W':World} {v:Value} {l:List Proc} {g:Nat} {p:Proc} (h:SlP W v l) (hg:W.heap[g]? =some (.cells p.cells 121 (0,0))) (hp:Put g ((find l p.pid).getD Proc.zero).cells 121 W W'):SlP W' v l:=by
 obtain ⟨a,c,rfl,h1,h2,h3|⟨gr,o,cur,rfl,hr,hi⟩⟩:=h
 · exact ⟨a,c,rfl,h1,h2,.inl h3⟩
 · refine ⟨_,c,rfl,h1,h2,.inr ?_⟩;by_cases he:gr=g
   · subst he;rw [hg] at hr;injection hr with hr
     injection hr with hr _ _
     subst hr;have hsz:p.cells.size=26:=rfl
     have hall:∀ i x,l[i]? =some x→i=0∧o=0∧x.cells=p.cells:=by
      intro i x hx;have h25:=hi i x hx 25 (.int .u32 x.wc) rfl;have hlt:=(Array.getElem?_eq_some_iff.1 h25).1;rw [hsz] at hlt;have ho:o=0∧i=0:=by omega
      obtain ⟨rfl,rfl⟩:=ho;refine ⟨rfl,rfl,Array.ext_getElem? fun j=> ?_⟩;by_cases hj:j<26
      · have hxs:x.cells.size=26:=rfl;have:=hi 0 x hx j _ (Array.getElem?_eq_getElem (by rw [hxs];exact hj))
        rw [show 0 + 0 * 26 + j=j by omega] at this;rw [this,Array.getElem?_eq_getElem (by rw [hxs];exact hj)]
      · rw [Array.getElem?_eq_none (by show 26≤j;omega),Array.getElem?_eq_none (by show 26≤j;omega)]
     have hfind:((find l p.pid).getD Proc.zero).cells=p.cells∨l=[]:=by
      cases l with
      |nil=> exact .inr rfl
      |cons x r=>
       left
       have hx:=(hall 0 x rfl).2.2
       have hpid:x.pid=p.pid:=by
        have:x.cells[0]? =p.cells[0]? :=by rw [hx]
        simp [Proc.cells] at this;exact this
       have:find (x::r) p.pid=some x:=by
        unfold find;rw [List.find?_cons_of_pos (by simp [hpid])]
       rw [this];exact hx
     rcases hfind with hf|hf
     · rw [hf] at hp;exact ⟨gr,o,p.cells,rfl,hp.at_,hi⟩
     · subst hf;exact ⟨gr,o,_,rfl,hp.at_,fun i x hx=> by simp at hx⟩
   · exact ⟨gr,o,cur,rfl,(hp.oth gr he).trans hr,hi⟩
theorem z0:(0:Int)≤0:=Int.le_refl 0
theorem z1:(0:Int)<100:=by decide
theorem lO (l:List Proc) (p:Proc):(put l p).length≤l.length + 1:=by
 unfold put;split
 · rw [List.length_set];omega
 · split
   · unfold ins;rw [List.length_append,List.length_cons,List.length_take,List.length_drop];omega
   · rw [List.length_append];exact Nat.le_refl _
theorem sQ (l:List Proc) (pid:Int):(remove l pid).length≤l.length:=List.length_filter_le _ _
theorem qFv (k:aI) (pid code why:Int):(ends k pid code why).p.length≤k.p.length + 1:=by
 unfold ends;split
 · exact Nat.zero_le _
 · dsimp only;split
   · show (remove _ _).length≤_
     exact Nat.le_trans (sQ _ _) (by rw [gH];omega)
   · show (put _ _).length≤_
     exact Nat.le_trans (lO _ _) (by rw [gH];omega)
theorem qHr (k:aI) (pid code why:Int):(ends k pid code why).trace=k.trace:=by
 unfold ends;split
 · rfl
 · dsimp only;split <;> rfl
theorem uC (k:aI) (p:Proc):(fresh k p).p.length≤k.p.length + 1:=by
 unfold fresh;split
 · omega
 · split
   · exact lO _ _
   · omega
theorem xX (k:aI) (p:Proc):(fresh k p).trace=k.trace:=by
 unfold fresh;split
 · rfl
 · split <;> rfl
theorem mV (k:aI):0≤fN k∧fN k<100:=by
 unfold fN fO;split
 · omega
 · split
   · exact ⟨show (0:Int)≤1 by decide,show (1:Int)<100 by decide⟩
   · split
     · exact ⟨z0,z1⟩
     · exact ⟨show (0:Int)≤5 by decide,show (5:Int)<100 by decide⟩
theorem lN (m:ByteArray) (a n:Int):0≤Sg.uL m a n∧Sg.uL m a n<100:=by
 unfold Sg.uL;split <;> exact ⟨by decide,by decide⟩
theorem qCt (m:ByteArray) (a:Int) (s:ByteArray):0≤Sg.inE m a s∧Sg.inE m a s<100:=by
 unfold Sg.inE;split <;> exact ⟨by decide,by decide⟩
theorem qGh (n:Int) (s:ByteArray):0≤Sg.uG n s∧Sg.uG n s<100:=by
 unfold Sg.uG;split
 · exact ⟨by decide,by decide⟩
 · first|exact ⟨by decide,by decide⟩|(split <;> exact ⟨by decide,by decide⟩)
theorem mX (k:aI) (n:Int):0≤dA k n∧dA k n<100:=by
 unfold dA;split
 · exact qGh _ _
 · exact ⟨by decide,by decide⟩
theorem qY (k:aI) (p:Proc) (x:Call):(aW k p x).k.trace=k.trace∧(aW k p x).k.p.length≤k.p.length + 1∧0≤(aW k p x).e∧(aW k p x).e<100:=by
 have triv:∀ (v e:Int),0≤e→e<100→(⟨k,v,e⟩:iA).k.trace=k.trace∧(⟨k,v,e⟩:iA).k.p.length≤k.p.length + 1∧0≤(⟨k,v,e⟩:iA).e∧(⟨k,v,e⟩:iA).e<100:=fun v e h0 h1=> ⟨rfl,Nat.le_succ _,h0,h1⟩
 unfold aW;split
 · unfold wait;split
   · exact ⟨rfl,Nat.le_trans (sQ _ _) (Nat.le_succ _),z0,z1⟩
   · split <;> exact triv _ _ (by decide) (by decide)
 split
 · exact triv _ _ (by decide) (by decide)
 split
 · exact triv _ _ (by decide) (by decide)
 split
 · exact ⟨rfl,Nat.le_succ _,z0,z1⟩
 split
 · unfold aG;split
   · exact triv _ _ (by decide) (by decide)
   · split
     · exact triv _ _ (by decide) (by decide)
     · split
       · exact triv _ _ (by decide) (by decide)
       · exact ⟨rfl,lO _ _,z0,z1⟩
 split
 · unfold writes;split
   · exact triv _ _ (by decide) (by decide)
   · split
     · exact triv _ _ (lN _ _ _).1 (lN _ _ _).2
     · dsimp only
       have hp:∀ (q:cG) (s:ByteArray),0≤(pwrite q s).2.2∧(pwrite q s).2.2<100:=fun q s=> by
        unfold pwrite;repeat' split
        all_goals simp
       split
       · exact triv _ _ (hp _ _).1 (hp _ _).2
       · exact ⟨rfl,Nat.le_succ _,z0,z1⟩
 split
 · unfold reads;split
   · exact triv _ _ (by decide) (by decide)
   · split
     · exact triv _ _ (lN _ _ _).1 (lN _ _ _).2
     · dsimp only
       have hp:∀ (q:cG) (n:Int),0≤(pread q n).2.2∧(pread q n).2.2<100:=fun q n=> by
        unfold pread;repeat' split
        all_goals simp
       split
       · exact triv _ _ (hp _ _).1 (hp _ _).2
       · exact ⟨rfl,lO _ _,z0,z1⟩
 split
 · unfold gM;split
   · exact triv _ _ (by decide) (by decide)
   · exact ⟨rfl,lO _ _,z0,z1⟩
 split
 · unfold gZ;split
   · exact triv _ _ (by decide) (by decide)
   · split
     · exact triv _ _ (lN _ _ _).1 (lN _ _ _).2
     · split
       · exact triv _ _ (by decide) (by decide)
       · exact ⟨rfl,Nat.le_succ _,z0,z1⟩
 split
 · unfold mH;split
   · split
     · exact triv _ _ (by decide) (by decide)
     · split
       · exact triv _ _ (by decide) (by decide)
       · split
         · exact triv _ _ (qCt _ _ _).1 (qCt _ _ _).2
         · exact ⟨rfl,lO _ _,z0,z1⟩
   · exact triv _ _ (by decide) (by decide)
 · exact triv _ _ (by decide) (by decide)
