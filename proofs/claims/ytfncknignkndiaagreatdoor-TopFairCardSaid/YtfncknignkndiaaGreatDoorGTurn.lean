/- slices.Index and Contains at numbers, slices.Grow and Concat of two rows of numbers. Conditions: as told. -/
import Derived.Test.YtfncknignkndiaaGreatDoorGSlp
import Derived.Test.YtfncknignkndiaaGreatDoorGTab
set_option linter.unusedVariables false
set_option maxRecDepth 100000
set_option maxHeartbeats 8000000
set_option linter.unusedSimpArgs false
namespace Go.Proofs.YtfncknignkndiaaGreatDoor
open Tryz
open Go.RowKit KR
namespace Kn
theorem qPc (v:Value) (l:List Int) (x:Int) (w:World) (h:SlI w v l):Calls prog 170 #[v,.int .i64 x] w (aN (.int .i64 (idx l (fun y=> x==y))) w):=by
 obtain ⟨a,c,rfl,hnc,hmax⟩:=h.shape;obtain ⟨_,_,_,hel⟩:=h.elem;have HEL:=hU hel;clear hel h;go_in;refine sg ?_;intros;go_loopw [8] (fun v wr=> Seek w l (fun y=> x==y) v wr) (fun v _=> l.length - (intOf v).toNat)
 case atStart=> exact ⟨0,Nat.zero_le _,rfl,Below.refl _ _,fun j y hj=> absurd hj (Nat.not_lt_zero _)⟩
 case round=>
  obtain ⟨k,hk,rfl,hb,hno⟩:=hrel;have HB:=hU hb;have HA:=hU hno;clear hb hno;by_cases hlt:k<l.length
  · obtain ⟨y,hy⟩:∃ y,l[k]? =some y:=⟨_,List.getElem?_eq_getElem hlt⟩
    obtain ⟨b,off,rfl,hbl,aC⟩:=HEL.out k y hy;have HX:=hU hy;have hc0:=aC wr HB.out 0 (.int .i64 y) rfl;rw [Nat.mul_one,Nat.add_zero] at hc0;clear aC hy;cases hp:x==y
    · refine sg ?_;intros
      exact ⟨⟨k + 1,by omega,by go_num,HB.out,fun j z hj hz=> by
       rcases Nat.lt_succ_iff_lt_or_eq.1 hj with h|rfl
       · exact HA.out j z h hz
       · rw [HX.out] at hz;injection hz with hz
         subst hz;exact hp⟩,by simp [intOf];omega⟩
    · refine sg ?_;intros;go_ret;exact fA (zS HX.out HA.out hp).symm HB.out
  · refine sg ?_;intros;go_ret;exact fA (uE (fun j y hj hy=> HA.out j y (by omega) hy)).symm HB.out
theorem qEd (l:List Int) (x:Int):decide (0≤idx l (fun y=> x==y))=l.contains x:=by
 rcases uD (fun y=> x==y) l with ⟨k,hi,hf,hk⟩|⟨hi,hf⟩
 · rw [hi];have h1:l[k]? =some l[k]:=List.getElem?_eq_getElem hk;rw [h1] at hf;have hx:=List.find?_some hf
   have:x=l[k]:=by simpa using hx
   have hm:x ∈ l:=by rw [this];exact List.getElem_mem hk
   rw [List.contains_iff_mem.2 hm];simp
 · rw [hi];rw [List.find?_eq_none] at hf;have hm:¬ x ∈ l:=fun hm=> hf x hm (by simp)
   have:l.contains x=false:=by
    cases h:l.contains x
    · rfl
    · exact absurd (List.contains_iff_mem.1 h) hm
   rw [this];decide
theorem qFs (v:Value) (l:List Int) (x:Int) (w:World) (h:SlI w v l):Calls prog 122 #[v,.int .i64 x] w (aN (.bool (l.contains x)) w):=by
 have HC:=hU (qPc v l x w h);have HD:=hU (qEd l x);obtain ⟨a,c,rfl,_,_⟩:=h.shape;clear h;go_in;repeat' (first|(go_at_call 170;refine HC.out.mono ?_;rintro e w1 ⟨rfl,hb1⟩;dsimp only)|go_values|go_skip|go_guarded|refine wg ?_|go_step|go_upon)
 go_ret;exact cE HD.out hb1
theorem qSm (n:Nat) (w:World) (hn:n≤34359738368):Calls prog 210 #[.slice none 0 0,.int .i64 n] w (fun e w'=> ∃ v',e=.returned v'∧pX w.heap.size w' v' []∧Below w.heap.size w w'):=by
 by_cases h0:n=0
 · subst h0;go_in;refine sg ?_;intros;go_ret;exact ⟨_,rfl,Own.nil _ _ _ _ _,Below.refl _ _⟩
 · have hi:(prog.info? 3).map (fun i=> (i.zero.map (·.cells.size),i.size,i.bytes))=some (some 1,1,8):=by kernel_rfl
   obtain ⟨i0,z,hi0,hz,hzs,hs,hby⟩:=iK hi;have hrz:=Lib.run_append_grow_zeros (P:=prog) w 27 3 27 3 i0 z .i64 .i64 underlying27 underlying3 hi0 hz none 0 0 [] (by simp [Builtin.firstCells]) n (by omega) (by rw [hs];decide) (by omega) (by omega) (by rw [hby];omega) (by rw [hby];exact growslice_fits (by omega) (by omega));rw [Nat.zero_add] at hrz;have hG1:=grownCap_ge w n 0 3;have hG2:=grownCap_le_maxLen w n 0 3 (by unfold maxLen;omega);generalize grownCap w n 0 3=G at hrz hG1 hG2
   have hRs:(([]:List Value).toArray ++ Builtin.zeroCells z.cells n ++ Builtin.zeroCells z.cells (G - n)).size=G * 1:=by
    rw [Array.size_append,Array.size_append,size_zeroCells,size_zeroCells,hzs];simp;omega
   generalize ([]:List Value).toArray ++ Builtin.zeroCells z.cells n ++ Builtin.zeroCells z.cells (G - n)=R at hrz hRs;have hO:pX w.heap.size (w.drew.alloc (.cells R 3)) (.slice (some ⟨w.heap.size,0,none⟩) 0 G) []:=World.ownsRow_made w.drew R G (Nat.le_refl _) hG2 hRs;have hB:Below w.heap.size w (w.drew.alloc (.cells R 3)):=⟨rfl,rfl,rfl,by simp,fun k hk=> Lib.alloc_old w.drew _ k hk⟩
   generalize w.drew.alloc (.cells R 3)=W1 at hrz hO hB;have HRZ:=hU hrz;have HO:=hU hO;have HB:=hU hB;have hpos:(0:Int)<n:=by omega
   clear hrz hO hB hi hi0 hz hzs hs hby hRs;go_in;repeat' (first|(at_builtin;refine cV _ rfl _ _ _ _ rfl _ _ rfl rfl _ _ HRZ.out ?_)|go_values|go_skip|go_guarded|refine wg ?_|go_step|go_upon)
   go_ret;exact ⟨_,rfl,HO.out,HB.out⟩
theorem xK {P:Program} {w:World} {base:Nat} {t ty e:TypeId} {i:TypeInfo} {size:Nat} (ht:P.underlying t=some (.slice e)) (hi:P.info? e=some i) {v:Value} {n:Nat} {xs:List Value} (hown:w.ownsRow base e size v n xs) (c:Nat):
 (Builtin.append_ #[t,t] ty #[v,.slice none 0 c]).run P w=.ok v w:=by
 rcases hown.2 with ⟨rfl,rfl⟩|⟨g,cap,cur,rfl,_,_,hnc,_⟩
 · simp [Builtin.append_,run_underlying ht,sizeOf,typeInfo,hi,Builtin.lenOf,Builtin.firstCells]
 · simp [Builtin.append_,run_underlying ht,sizeOf,typeInfo,hi,Builtin.lenOf,Builtin.firstCells,hnc,storeCells]
theorem qCi (v u:Value) (l m:List Int) (B:Nat) (w:World) (h:pX B w v l) (hu:SlI w u m) (hB:B≤w.heap.size) (hn:l.length + m.length≤34359738368):
 ∃ v' W',(Builtin.append_ #[27,27] 27 #[v,u]).run prog w=.ok v' W'∧pX B W' v' (l ++ m)∧Below B w W':=by
 have hi:(prog.info? 3).map (fun i=> (i.zero.map (·.cells.size),i.size,i.bytes))=some (some 1,1,8):=by kernel_rfl
 obtain ⟨i,z,hi0,hz,hzs,hs,hby⟩:=iK hi;obtain ⟨a,c,rfl,hmc,hcm⟩:=hu.shape;match a,hu with
 |none,hu=>
  obtain ⟨_,_,he,_,_,hl⟩:=hu;injection he with ha hl' hc'
  obtain rfl:m=[]:=by
   rcases hl with rfl|⟨b,off,cur,hb,_⟩
   · rfl
   · rw [← ha] at hb;cases hb
  exact ⟨v,w,xK underlying27 hi0 h c,by rw [List.append_nil];exact h,Below.refl _ _⟩
 |some ad,hu=>
  have hcells:∀ j u,(flat dC m)[j]? =some u→w.cell? (ad.add j)=some u:=by
   intro j u hj;have hu':=hu;obtain ⟨_,_,he,_,_,hl⟩:=hu;injection he with ha hl' hc'
   rcases hl with rfl|⟨b,off,cur,hb,hbl,_⟩
   · simp [flat] at hj
   · rw [hb] at ha;injection ha with ha
     subst ha;rw [oL];exact Sl.lJ gS hu' j u hj
  obtain ⟨v',W',hrun,hown',hgrow,_⟩:=run_append_own (P:=prog) w B 27 27 3 i z 1 8 underlying27 hi0 hz hs hby hzs (by decide) v l.length (flat dC l) h ad m.length c (flat dC m) (dX gS m) hcells (xD gJ m) (by unfold maxLen;omega) (by omega) hB
  refine ⟨v',W',hrun,?_,⟨hgrow.os,hgrow.tape,hgrow.output,hgrow.size,fun k hk=> hgrow.block k (by omega) (fun e=> by
   have:=(World.ownsRow.lt h k e.symm).1
   omega)⟩⟩
  show W'.ownsRow _ _ _ _ _ _
  rw [eQ,List.length_append];exact hown'
theorem qLi (v1 v2:Value) (l1 l2:List Int) (b:Nat) (w:World) (h1:SlI w v1 l1) (h2:SlI w v2 l2) (hh:w.heap[b]? =some (.cells #[v1,v2] 27 (0,0))) (hn1:l1.length≤8589934592) (hn2:l2.length≤8589934592):
 Calls prog 171 #[.slice (some ⟨b,0,none⟩) 2 2] w (fun e w'=> ∃ v',e=.returned v'∧pX w.heap.size w' v' (l1 ++ l2)∧Below w.heap.size w w'):=by
 have HG:=hU (qSm (l1.length + l2.length) w (by omega));have H1:=hU h1;have H2:=hU h2;obtain ⟨a1,c1,rfl,_,_⟩:=h1.shape;obtain ⟨a2,c2,rfl,_,_⟩:=h2.shape;have HH:=hU hh;have hbl:=hlt hh;have k0:w.cell? ⟨b,0,none⟩=some (.slice a1 l1.length c1):=aC hh 0;have k1:w.cell? ⟨b,1,none⟩=some (.slice a2 l2.length c2):=aC hh 1;have hw1:IntKind.i64.wrap ((l1.length:Int))=(l1.length:Int):=by rw [IntKind.wrap_i64];omega
 have hw2:IntKind.i64.wrap ((l1.length:Int) + (l2.length:Int))=(l1.length:Int) + (l2.length:Int):=by rw [IntKind.wrap_i64];omega
 have hp1:¬ (l1.length:Int)<0:=by omega
 have hp2:¬ (l1.length:Int) + (l2.length:Int)<0:=by omega
 clear h1 h2 hh;go_in;refine sg ?_;intros;refine wp_loop_rounds 3 ?_;rw [rounds_succ];refine sg ?_;intros;rw [rounds_succ];refine sg ?_;intros;rw [rounds_succ];refine sg ?_;intros;have hg:=HG.out;rw [Int.natCast_add] at hg;refine hg.mono ?_;rintro e w1 ⟨v0,rfl,hown0,hb1⟩;have hz1:=hb1.size;obtain ⟨v3,w3,hrun3,hown3,hb3⟩:=qCi v0 _ [] l1 w.heap.size w1 hown0 (H1.out.below hb1) hz1 (by simp;omega);have hb13:Below w.heap.size w w3:=hb1.trans hb3;have hz3:=hb13.size;obtain ⟨v4,w4,hrun4,hown4,hb4⟩:=qCi v3 _ _ l2 w.heap.size w3 hown3 (H2.out.below hb13) hz3 (by simp;omega);have HRUN3:=hU hrun3;have HRUN4:=hU hrun4;have HO4:=hU hown4;have HB4:=hU (hb13.trans hb4);have m0:w1.cell? ⟨b,0,none⟩=some (.slice a1 l1.length c1):=(hb1.cell (p:=⟨b,0,none⟩) hbl).trans k0;have m1:w3.cell? ⟨b,1,none⟩=some (.slice a2 l2.length c2):=(hb13.cell (p:=⟨b,1,none⟩) hbl).trans k1;obtain ⟨a0,c0,rfl,_,_⟩:=(hown0.sl gS).shape;clear hown0 hrun3 hrun4 hown3 hown4 hb3 hb4 hb13 hb1 hg HG;dsimp only;refine sg ?_;intros;refine wp_loop_rounds 3 ?_;rw [rounds_succ];repeat' (first|(at_builtin;refine cV _ rfl _ _ _ _ rfl _ _ rfl rfl _ _ HRUN3.out ?_)|go_values|go_skip|go_guarded|refine wg ?_|go_step|go_upon)
 rw [rounds_succ];repeat' (first|(at_builtin;refine cV _ rfl _ _ _ _ rfl _ _ rfl rfl _ _ HRUN4.out ?_)|go_values|go_skip|go_guarded|refine wg ?_|go_step|go_upon)
 rw [rounds_succ];refine sg ?_;intros;go_ret;exact ⟨_,rfl,HO4.out,HB4.out⟩
theorem qHz (v1 v2:Value) (l1 l2:List Int) (b:Nat) (w:World) (h1:SlI w v1 l1) (h2:SlI w v2 l2) (hh:w.heap[b]? =some (.cells #[v1,v2] 27 (0,0))) (hn1:l1.length≤8589934592) (hn2:l2.length≤8589934592):
 Calls prog 123 #[.slice (some ⟨b,0,none⟩) 2 2] w (fun e w'=> ∃ v',e=.returned v'∧pX w.heap.size w' v' (l1 ++ l2)∧Below w.heap.size w w'):=by
 have HC:=hU (qLi v1 v2 l1 l2 b w h1 h2 hh hn1 hn2);clear h1 h2 hh;go_in;repeat' (first|(go_at_call 171;refine HC.out.mono ?_;rintro e w1 ⟨v1,rfl,hown,hb1⟩;dsimp only)|go_values|go_skip|go_guarded|refine wg ?_|go_step|go_upon)
 go_ret;exact ⟨_,rfl,hown,hb1⟩
theorem Own.put {α:Type} {E T:TypeId} {sz B b:Nat} {f:α→Array Value} {W W':World} {v:Value} {l:List α} {cs:Array Value} (h:Own E sz f B W v l) (hp:Put b cs T W W') (hb:b<B):Own E sz f B W' v l:=by
 obtain ⟨h0,h1|⟨g,cap,cur,hv,hB,hg,hc,hm,hs,ht⟩⟩:=h
 · exact ⟨h0,.inl h1⟩
 · exact ⟨h0,.inr ⟨g,cap,cur,hv,hB,(hp.oth g (by omega)).trans hg,hc,hm,hs,ht⟩⟩
theorem qP {a:Option Addr} {n c:Nat} {x:Int}:∀ u ∈ (#[.slice a n c,.int .i64 x]:Array Value).toList,u.oneCell'=true:=by
 intro u hu;simp at hu;rcases hu with rfl|rfl <;> rfl
theorem eF (W:World) (n:Nat) (o1 o2:Obj) (hn:W.heap.size=n):((W.alloc o1).alloc o2).heap[n]? =some o1∧((W.alloc o1).alloc o2).heap[n + 1]? =some o2:=by
 subst hn;refine ⟨hold (fZ W o1),?_⟩;have h:=fZ (W.alloc o1) o2;rwa [World.size_alloc] at h
def qC (W:World) (v:Value) (t:jM):Prop:=∃ u,v=.agg #[u,.int .i64 t.left]∧SlI W u t.l
def qDn (t:jM) (w:World) (e:Ending) (w':World):Prop:=∃ v,e=.returned v∧qC w' v t∧Below w.heap.size w w'
theorem qJe (v:Value) (t:jM) (w:World) (h:qC w v t):Calls prog 84 #[v] w (aN (.tuple #[.int .i64 (t.l.head?.getD 0),.bool t.l.head?.isSome]) w):=by
 obtain ⟨l,left⟩:=t;obtain ⟨u,rfl,hs⟩:=h;obtain ⟨a,c,rfl,_,_⟩:=hs.shape;obtain ⟨_,_,_,hel⟩:=hs.elem;dsimp only at *;match l,hs,hel with
 |[],_,_=>
  go_in;refine sg ?_;intros;go_ret2
  exact ⟨rfl,bel⟩
 |x::l,_,hel=>
  obtain ⟨b,off,rfl,hbl,aC⟩:=hel 0 x rfl;have c0:=aC w (Below.refl _ _) 0 (.int .i64 x) rfl;simp at c0;have hlen:¬ ((x::l).length:Int)=0:=by simp;omega
  have hpos:(0:Int)<((x::l).length:Int):=by simp
  clear hel aC;generalize (x::l).length=n at *;go_in;refine sg ?_;intros;go_ret2
  exact ⟨rfl,bel⟩
theorem Sl.one {W:World} {b:Nat} {x:Int} (h:W.heap[b]? =some (.cells #[.int .i64 x] 3 (0,0))):SlI W (.slice (some ⟨b,0,none⟩) 1 1) [x]:=
 ⟨_,_,rfl,Nat.le_refl _,by decide,.inr ⟨b,0,_,rfl,h,fun i y hy j u hj=> by
   match i,hy with
   |0,hy=>
    injection hy with hy
    subst hy;match j,hj with
    |0,hj=> simpa [dC] using hj
    |j + 1,hj=> simp [dC] at hj
   |i + 1,hy=> simp at hy⟩⟩
theorem Sl.nils {W:World} {a:Option Addr} {c:Nat} (h:c≤9223372036854775807):SlI W (.slice a 0 c) []:=Sl.empty h
theorem TAdd (v:Value) (t:jM) (pid:Int) (w:World) (h:qC w v t) (hn:t.l.length≤8589934592):Calls prog 79 #[v,.int .i64 pid] w (qDn (iE t pid) w):=by
 obtain ⟨l,left⟩:=t;obtain ⟨u,rfl,hs⟩:=h;have HC:=hU (fun W hb=> qFs u l pid W (hs.below hb));have HS:=hU hs;obtain ⟨a,c,rfl,_,_⟩:=hs.shape;dsimp only at *;clear hs;cases hc:l.contains pid
 · by_cases hl:l=[]
   · subst hl;have hta:iE ⟨[],left⟩ pid=⟨[] ++ [pid],5⟩:=by rw [iE,if_neg (by rw [hc];simp)];rfl
     rw [hta];rw [hc] at HC;clear hta hc;go_in;refine sg ?_;intros;refine (HC.out _ bel).mono ?_;rintro e w1 ⟨rfl,hb1⟩;obtain ⟨hc1,hf1,hz1⟩:=dM hb1;simp at hz1;have y0:w.heap.size<w1.heap.size:=by omega
     have y1:w.heap.size + 1<w1.heap.size:=by omega
     have HB1:Hid (Below w.heap.size w w1):=hU bel;have HS1:=hU (HS.out.below HB1.out);obtain ⟨q0,q1⟩:=eF w w.heap.size (.cells #[.slice a 0 c,.int .i64 left] 29) (.cells #[.slice none 0 0,.int .i64 0] 29) rfl;have HB0:Hid _:=hU (And.intro ((hb1.block w.heap.size (by simp;omega)).trans q0) ((hb1.block (w.heap.size + 1) (by simp)).trans q1));clear HC;dsimp only;refine sg ?_;intros;obtain ⟨n1,n2⟩:=eF (w1.setCell ⟨w.heap.size,1,none⟩ (.int .i64 5)) w1.heap.size (.cells #[.int .i64 pid] 3) (.cells #[.slice a 0 c,.slice (some ⟨w1.heap.size,0,none⟩) 1 1] 27) (World.size_setCell _ _ _);have hb0:=HB0.out;have HT1:(((w1.setCell ⟨w.heap.size,1,none⟩ (.int .i64 5)).alloc (.cells #[.int .i64 pid] 3)).alloc (.cells #[.slice a 0 c,.slice (some ⟨w1.heap.size,0,none⟩) 1 1] 27)).heap[w.heap.size]? =some (.cells #[.slice a 0 c,.int .i64 5] 29 (0,0)):=hold (hold (by simp [World.setCell,Array.getElem?_modify,hb0.1]));have HR1:(((w1.setCell ⟨w.heap.size,1,none⟩ (.int .i64 5)).alloc (.cells #[.int .i64 pid] 3)).alloc (.cells #[.slice a 0 c,.slice (some ⟨w1.heap.size,0,none⟩) 1 1] 27)).heap[w.heap.size + 1]? =some (.cells #[.slice none 0 0,.int .i64 0] 29 (0,0)):=hold (hold (by simp [World.setCell,Array.getElem?_modify,hb0.2]));have HBX:Below w.heap.size w (((w1.setCell ⟨w.heap.size,1,none⟩ (.int .i64 5)).alloc (.cells #[.int .i64 pid] 3)).alloc (.cells #[.slice a 0 c,.slice (some ⟨w1.heap.size,0,none⟩) 1 1] 27)):=(((HB1.out.setCell (p:=⟨w.heap.size,1,none⟩) (Nat.le_refl _) _).alloc (by rw [World.size_setCell];omega) _).alloc (by rw [World.size_alloc,World.size_setCell];omega) _)
     refine (qHz (.slice a 0 c) (.slice (some ⟨w1.heap.size,0,none⟩) 1 1) [] [pid] (w1.heap.size + 1) _ (Sl.nils (by assumption)) (Sl.one n1) n2 (by simp) (by simp)).mono ?_;rintro e w2 ⟨v2,rfl,hown,hb2⟩;have hz2:=hb2.size;simp at hz2;have HO:=hU hown;obtain ⟨a2,c2,hv2,_,_⟩:=(hown.sl gS).shape;generalize List.length _=n2 at hv2;subst hv2;have HT:=hU ((hb2.block w.heap.size (by simp;omega)).trans HT1);have HR:=hU ((hb2.block (w.heap.size + 1) (by simp;omega)).trans HR1);have HB2:=hU (Below.to HBX hb2);clear hown hb2 HT1 HR1 HBX;dsimp only
     repeat' (first
      |(refine aK (v:=.slice a2 n2 c2) (off:=0) rfl rfl rfl rfl uH.size HT.out rfl (by simp) (by intro u hu;simp [Value.cells] at hu;subst hu;rfl) rfl ?_;intro W3 hp3;(have HT3:=hU hp3.at_);(have HR3:=hU ((hp3.oth (w.heap.size + 1) (by omega)).trans HR.out));(have HO3:=hU (Own.put HO.out hp3 (by simp;omega)));(have HB3:=hU (Below.put HB2.out hp3 (Nat.le_refl _)));clear hp3)
      |(refine aE rfl rfl rfl (aD cM HT3.out rfl) ?_)
      |(refine aK (v:=.agg #[.slice a2 n2 c2,.int .i64 5]) (off:=0) rfl rfl rfl rfl cM.size HR3.out rfl (by simp) qP rfl ?_;intro W4 hp4;(have HR4:=hU hp4.at_);(have HO4:=hU (Own.put HO3.out hp4 (by simp;omega)));(have HB4:=hU (Below.put HB3.out hp4 (by omega)));clear hp4)
      |go_values|go_skip|go_guarded|refine wg ?_|go_step|go_upon)
     (try simp only [Exit.inBlock,Exit.then]);refine bodyPost_ret (cJ results79 cM rfl HR4.out rfl) rfl ?_
     exact ⟨_,rfl,⟨_,rfl,HO4.out.sl gS⟩,HB4.out⟩
   · have hlen:¬ (l.length:Int)=0:=by simp [hl]
     have hlb:((l.length:Int)==0)=false:=by simp [hl]
     have hta:iE ⟨l,left⟩ pid=⟨l ++ [pid],left⟩:=by rw [iE,if_neg (by rw [hc];simp)];simp [hl]
     rw [hta];rw [hc] at HC;clear hta hc;go_in;refine sg ?_;intros;refine (HC.out _ bel).mono ?_;rintro e w1 ⟨rfl,hb1⟩;obtain ⟨hc1,hf1,hz1⟩:=dM hb1;simp at hz1;have y0:w.heap.size<w1.heap.size:=by omega
     have y1:w.heap.size + 1<w1.heap.size:=by omega
     have HB1:Hid (Below w.heap.size w w1):=hU bel;have HS1:=hU (HS.out.below HB1.out);obtain ⟨q0,q1⟩:=eF w w.heap.size (.cells #[.slice a l.length c,.int .i64 left] 29) (.cells #[.slice none 0 0,.int .i64 0] 29) rfl;have HB0:Hid _:=hU (And.intro ((hb1.block w.heap.size (by simp;omega)).trans q0) ((hb1.block (w.heap.size + 1) (by simp)).trans q1));clear HC;dsimp only;refine sg ?_;intros;obtain ⟨n1,n2⟩:=eF w1 w1.heap.size (.cells #[.int .i64 pid] 3) (.cells #[.slice a l.length c,.slice (some ⟨w1.heap.size,0,none⟩) 1 1] 27) rfl;have HT1:=hold (o:=.cells #[.slice a l.length c,.slice (some ⟨w1.heap.size,0,none⟩) 1 1] 27) (hold (o:=.cells #[.int .i64 pid] 3) HB0.out.1);have HR1:=hold (o:=.cells #[.slice a l.length c,.slice (some ⟨w1.heap.size,0,none⟩) 1 1] 27) (hold (o:=.cells #[.int .i64 pid] 3) HB0.out.2);have HBX:Below w.heap.size w ((w1.alloc (.cells #[.int .i64 pid] 3)).alloc (.cells #[.slice a l.length c,.slice (some ⟨w1.heap.size,0,none⟩) 1 1] 27)):=(HB1.out.alloc (by omega) _).alloc (by rw [World.size_alloc];omega) _;refine (qHz (.slice a l.length c) (.slice (some ⟨w1.heap.size,0,none⟩) 1 1) l [pid] (w1.heap.size + 1) _ (HS1.out.below (((Below.refl w1.heap.size w1).alloc (Nat.le_refl _) _).alloc (by rw [World.size_alloc];omega) _)) (Sl.one n1) n2 hn (by simp)).mono ?_;rintro e w2 ⟨v2,rfl,hown,hb2⟩;have hz2:=hb2.size;simp at hz2;have HO:=hU hown;obtain ⟨a2,c2,hv2,_,_⟩:=(hown.sl gS).shape;generalize List.length _=n2 at hv2;subst hv2;have HT:=hU ((hb2.block w.heap.size (by simp;omega)).trans HT1);have HR:=hU ((hb2.block (w.heap.size + 1) (by simp;omega)).trans HR1);have HB2:=hU (Below.to HBX hb2);clear hown hb2 HT1 HR1 HBX;dsimp only
     repeat' (first
      |(refine aK (v:=.slice a2 n2 c2) (off:=0) rfl rfl rfl rfl uH.size HT.out rfl (by simp) (by intro u hu;simp [Value.cells] at hu;subst hu;rfl) rfl ?_;intro W3 hp3;(have HT3:=hU hp3.at_);(have HR3:=hU ((hp3.oth (w.heap.size + 1) (by omega)).trans HR.out));(have HO3:=hU (Own.put HO.out hp3 (by simp;omega)));(have HB3:=hU (Below.put HB2.out hp3 (Nat.le_refl _)));clear hp3)
      |(refine aE rfl rfl rfl (aD cM HT3.out rfl) ?_)
      |(refine aK (v:=.agg #[.slice a2 n2 c2,.int .i64 left]) (off:=0) rfl rfl rfl rfl cM.size HR3.out rfl (by simp) qP rfl ?_;intro W4 hp4;(have HR4:=hU hp4.at_);(have HO4:=hU (Own.put HO3.out hp4 (by simp;omega)));(have HB4:=hU (Below.put HB3.out hp4 (by omega)));clear hp4)
      |go_values|go_skip|go_guarded|refine wg ?_|go_step|go_upon)
     (try simp only [Exit.inBlock,Exit.then]);refine bodyPost_ret (cJ results79 cM rfl HR4.out rfl) rfl ?_
     exact ⟨_,rfl,⟨_,rfl,HO4.out.sl gS⟩,HB4.out⟩
 · have hta:iE ⟨l,left⟩ pid=⟨l,left⟩:=by rw [iE,if_pos hc]
   rw [hta];rw [hc] at HC;clear hta hc;go_in;refine sg ?_;intros;refine (HC.out _ bel).mono ?_;rintro e w1 ⟨rfl,hb1⟩;obtain ⟨hc1,hf1,hz1⟩:=dM hb1;simp at hz1;have y0:w.heap.size<w1.heap.size:=by omega
   have y1:w.heap.size + 1<w1.heap.size:=by omega
   dsimp only;obtain ⟨q0,q1⟩:=eF w w.heap.size (.cells #[.slice a l.length c,.int .i64 left] 29) (.cells #[.slice none 0 0,.int .i64 0] 29) rfl;have HT:=hU ((hb1.block w.heap.size (by simp;omega)).trans q0);have HR:=hU ((hb1.block (w.heap.size + 1) (by simp)).trans q1);have HB1:Hid (Below w.heap.size w w1):=hU bel;have HS1:=hU (HS.out.below HB1.out);clear q0 q1
   repeat' (first
    |(refine aE rfl rfl rfl (aD cM HT.out rfl) ?_)
    |(refine aK (v:=.agg #[.slice a l.length c,.int .i64 left]) (off:=0) rfl rfl rfl rfl cM.size HR.out rfl (by simp) qP rfl ?_;intro W4 hp4;(have HR4:=hU hp4.at_);(have HS4:=hU (Sl.put HS1.out HR.out hp4 (by decide)));(have HB4:=hU (Below.put HB1.out hp4 (by omega)));clear hp4)
    |go_values|go_skip|go_guarded|refine wg ?_|go_step|go_upon)
   (try simp only [Exit.inBlock,Exit.then]);refine bodyPost_ret (cJ results79 cM rfl HR4.out rfl) rfl ?_
   exact ⟨_,rfl,⟨_,rfl,HS4.out⟩,HB4.out⟩
end Kn
end Go.Proofs.YtfncknignkndiaaGreatDoor
namespace Go.Proofs.YtfncknignkndiaaGreatDoor
open Tryz
open Go.RowKit
namespace KR
theorem gG (W:World) (n:Nat) (o1 o2 o3:Obj) (hn:W.heap.size=n):(((W.alloc o1).alloc o2).alloc o3).heap[n]? =some o1∧(((W.alloc o1).alloc o2).alloc o3).heap[n + 1]? =some o2∧(((W.alloc o1).alloc o2).alloc o3).heap[n + 1 + 1]? =some o3:=by
 obtain ⟨h1,h2⟩:=Kn.eF W n o1 o2 hn;have h3:=fZ ((W.alloc o1).alloc o2) o3;simp only [World.size_alloc,hn] at h3;exact ⟨hold h1,hold h2,h3⟩
theorem uB (W:World) (n:Nat) (o1 o2 o3 o4:Obj) (hn:W.heap.size=n):((((W.alloc o1).alloc o2).alloc o3).alloc o4).heap[n]? =some o1∧((((W.alloc o1).alloc o2).alloc o3).alloc o4).heap[n + 1]? =some o2∧((((W.alloc o1).alloc o2).alloc o3).alloc o4).heap[n + 1 + 1]? =some o3∧((((W.alloc o1).alloc o2).alloc o3).alloc o4).heap[n + 1 + 1 + 1]? =some o4:=by
 obtain ⟨h1,h2,h3⟩:=gG W n o1 o2 o3 hn;have h4:=fZ (((W.alloc o1).alloc o2).alloc o3) o4;simp only [World.size_alloc,hn] at h4;exact ⟨hold h1,hold h2,hold h3,h4⟩
theorem oH {P:Program} {fn:Func} {p q u:Tmp} {ty ty2:TypeId} {n n2:Nat} (h:fn.results=#[.cell p ty,.cell q ty2,.tmp u]) (ht:Agg P ty n) (ht2:Agg P ty2 n2) {tmps:Array Value} {W:World} {b b2:Nat} {cs cs2:Array Value} {T T2:TypeId} {fr fr2:Nat × Nat} (hp:tmps.getD p undef=.pointer (some ⟨b,0,none⟩)) (hq:tmps.getD q undef=.pointer (some ⟨b2,0,none⟩)) (hh:W.heap[b]? =some (.cells cs T fr)) (hl:cs.size=n) (hh2:W.heap[b2]? =some (.cells cs2 T2 fr2)) (hl2:cs2.size=n2):
 (results fn tmps).run P W=.ok (.tuple #[.agg cs,.agg cs2,tmps.getD u undef]) W:=by
 have hp':tmps[p]?.getD undef=.pointer (some ⟨b,0,none⟩):=by simpa using hp
 have hq':tmps[q]?.getD undef=.pointer (some ⟨b2,0,none⟩):=by simpa using hq
 simp [results,h,hp',hq',asAddr,iM ht hh hl,iM ht2 hh2 hl2]
variable {α:Type}
theorem hfro {W:World} {b:Nat} {cs:Array Value} {T:TypeId} (h:W.heap[b]? =some (.cells cs T (0,0))) (o:Nat):W.frozen? ⟨b,o,none⟩=false:=by simp [World.frozen?,h]
theorem heap_set {W:World} {b k o:Nat} {v:Value} (hk:k ≠ b):(W.setCell ⟨b,o,none⟩ v).heap[k]? =W.heap[k]? :=Below.heap_setCell W _ v k hk
theorem Sl.set {E T:TypeId} {sz b o:Nat} {f:α→Array Value} {W:World} {v u:Value} {l:List α} {cs:Array Value} (h:Sl E sz f W v l) (hh:W.heap[b]? =some (.cells cs T (0,0))) (hT:E ≠ T):Sl E sz f (W.setCell ⟨b,o,none⟩ u) v l:=
 h.stay (fun k c hc=> heap_set (eS hc hh hT))
theorem Sl.alloc {E:TypeId} {sz:Nat} {f:α→Array Value} {W:World} {v:Value} {l:List α} (h:Sl E sz f W v l) (o:Obj):Sl E sz f (W.alloc o) v l:=h.below ((Below.refl _ _).alloc (Nat.le_refl _) _)
theorem Sl.drew {E:TypeId} {sz:Nat} {f:α→Array Value} {W:World} {v:Value} {l:List α} (h:Sl E sz f W v l):Sl E sz f W.drew v l:=h.stay (fun _ _ _=> rfl)
theorem Sl.clip {E:TypeId} {sz:Nat} {f:α→Array Value} {W:World} {a:Option Addr} {n c:Nat} {l:List α} (h:Sl E sz f W (.slice a n c) l):Sl E sz f W (.slice a n n) l:=by
 obtain ⟨a',c',he,h1,h2,h⟩:=h;injection he with ha hn hc
 subst ha hn hc;exact ⟨_,_,rfl,Nat.le_refl _,Nat.le_trans h1 h2,h⟩
end KR
end Go.Proofs.YtfncknignkndiaaGreatDoor
namespace Go.Proofs.YtfncknignkndiaaGreatDoor
open Tryz
open Go.RowKit KR
namespace Kn
theorem qXo (x:Int) (b:Nat) (pid:Int) (W:World) (h:W.cell? ⟨b,0,none⟩=some (.int .i64 pid)) (hb:b<W.heap.size):Calls prog 194 #[.int .i64 x,.pointer (some ⟨b,0,none⟩)] W (aN (.bool (x==pid)) W):=by
 go_in;repeat' (first|go_values|go_skip|go_guarded|refine wg ?_|go_step|go_upon|go_quiet (fail))
 go_ret;exact cE rfl bel
theorem qXp (x:Int) (b:Nat) (pid:Int) (W:World) (h:W.cell? ⟨b,0,none⟩=some (.int .i64 pid)) (hb:b<W.heap.size):Calls prog 197 #[.int .i64 x,.pointer (some ⟨b,0,none⟩)] W (aN (.bool (x==pid)) W):=by
 go_in;repeat' (first|go_values|go_skip|go_guarded|refine wg ?_|go_step|go_upon|go_quiet (fail))
 go_ret;exact cE rfl bel
theorem qOu:Enters prog 194:=enters_of func194 (by kernel_rfl) rfl
theorem qOv:Enters prog 197:=enters_of func197 (by kernel_rfl) rfl
theorem qQi {t:jM} {pid:Int} (h:idx t.l (fun x=> x==pid)= -1):eZ t pid=t:=by
 have hn:=uF h;rw [List.findIdx?_eq_none_iff] at hn;have hm:¬ pid ∈ t.l:=fun hm=> by have:=hn pid hm;simp at this
 have:t.l.contains pid=false:=by
  cases hc:t.l.contains pid
  · rfl
  · exact absurd (List.contains_iff_mem.1 hc) hm
 rw [eZ,this];rfl
theorem qMu {t:jM} {pid:Int} {k:Nat} (h:idx t.l (fun x=> x==pid)=(k:Int)):eZ t pid=⟨t.l.filter (fun x=> !(x==pid)),if k=0 then 5 else t.left⟩:=by
 have hs:=qAs h;rw [List.findIdx?_eq_some_iff_getElem] at hs;obtain ⟨hk,hp,hno⟩:=hs;have hx:t.l[k]=pid:=by simpa using hp
 have hm:pid ∈ t.l:=by rw [← hx];exact List.getElem_mem hk
 have hh:(t.l.head? =some pid)↔k=0:=by
  rw [List.head?_eq_getElem?];constructor
  · intro h0;apply Classical.byContradiction;intro hk0;have h1:=hno 0 (by omega);obtain ⟨h2,h3⟩:=List.getElem?_eq_some_iff.1 h0;rw [h3] at h1;simp at h1
  · intro h0;subst h0;rw [List.getElem?_eq_getElem hk,hx]
 rw [eZ,if_pos (List.contains_iff_mem.2 hm)];simp only [hh]
theorem gG (W:World) (n:Nat) (o1 o2 o3:Obj) (hn:W.heap.size=n):(((W.alloc o1).alloc o2).alloc o3).heap[n]? =some o1∧(((W.alloc o1).alloc o2).alloc o3).heap[n + 1]? =some o2∧(((W.alloc o1).alloc o2).alloc o3).heap[n + 1 + 1]? =some o3:=by
 obtain ⟨h1,h2⟩:=eF W n o1 o2 hn;refine ⟨hold h1,hold h2,?_⟩;have h:=fZ ((W.alloc o1).alloc o2) o3;rwa [World.size_alloc,World.size_alloc,hn] at h
theorem qUe (v:Value) (t:jM) (pid:Int) (w:World) (h:qC w v t) (hn:t.l.length≤8589934592):Calls prog 139 #[v,.int .i64 pid] w (qDn (eZ t pid) w):=by
 obtain ⟨l,left⟩:=t;obtain ⟨u,rfl,hs⟩:=h;have HI:=hU (fun W (hb:Below w.heap.size w W) (hc:W.cell? ⟨w.heap.size + 1,0,none⟩=some (.int .i64 pid)) (hz:w.heap.size + 1<W.heap.size)=> qPb u l (fun x=> x==pid) 194 (.pointer (some ⟨w.heap.size + 1,0,none⟩)) W (hs.below hb) qOu (fun x W' hb'=> qXo x (w.heap.size + 1) pid W' ((hb'.cell (p:=⟨w.heap.size + 1,0,none⟩) hz).trans hc) (Nat.lt_of_lt_of_le hz hb'.size)));have HCL:=hU (fun W (hb:Below w.heap.size w W)=> qOo u l W (hs.below hb) (by simp at hn;omega));have HDEL:=hU (fun (v:Value) (B:Nat) (W:World) (h:pX B W v l) (hB:B≤W.heap.size) (hc:W.cell? ⟨w.heap.size + 1,0,none⟩=some (.int .i64 pid)) (hz:w.heap.size + 1<B)=> qWq v l (fun x=> x==pid) 197 (.pointer (some ⟨w.heap.size + 1,0,none⟩)) B W h hB qOv (fun x W' hb'=> qXp x (w.heap.size + 1) pid W' ((hb'.cell (p:=⟨w.heap.size + 1,0,none⟩) hz).trans hc) (by have:=hb'.size;omega)));have HS:=hU hs;obtain ⟨a,c,rfl,_,_⟩:=hs.shape;dsimp only at *;clear hs;obtain ⟨q0,q1,q2⟩:=gG w w.heap.size (.cells #[.slice a l.length c,.int .i64 left] 29) (.cells #[.int .i64 pid] 3) (.cells #[.slice none 0 0,.int .i64 0] 29) rfl;go_in;refine sg ?_;intros;refine (HI.out _ bel (aC q1 0) (by simp)).mono ?_;rintro e w1 ⟨rfl,hb1⟩;have hz1:=hb1.size;simp at hz1;have HT:=hU ((hb1.block w.heap.size (by simp;omega)).trans q0);have HP:=hU ((hb1.block (w.heap.size + 1) (by simp)).trans q1);have HR:=hU ((hb1.block (w.heap.size + 1 + 1) (by simp)).trans q2);have HB1:Hid (Below w.heap.size w w1):=hU bel;clear q0 q1 q2 hb1 HI;rcases qCs l (fun x=> x==pid) with ⟨k,hi,hk⟩|hi
 · have HE:=hU (qMu (t:=⟨l,left⟩) hi);rw [hi];clear hi;dsimp only;have hk0:¬ (k:Int)<0:=by omega
   by_cases hkz:k=0
   · subst hkz;rw [if_pos rfl] at HE;have HS1:=hU (HS.out.below HB1.out)
     repeat' (first
      |(refine aK (v:=.int .i64 5) (off:=1) (new:=#[.slice a l.length c,.int .i64 5]) rfl rfl rfl rfl cO.size HT.out rfl (by simp) (gJ 5) rfl ?_;intro W2 hp2;(have HT2:=hU hp2.at_);(have HP2:=hU ((hp2.oth (w.heap.size + 1) (by omega)).trans HP.out));(have HR2:=hU ((hp2.oth (w.heap.size + 1 + 1) (by omega)).trans HR.out));(have hz2:=hp2.size);(have HB2:=hU (Below.put HB1.out hp2 (Nat.le_refl _)));clear hp2;have k0:W2.cell? ⟨w.heap.size,0,none⟩=some (.slice a l.length c):=aC HT2.out 0)
      |go_values|go_skip|go_guarded|refine wg ?_|go_step|go_upon)
     refine (HCL.out W2 HB2.out).mono ?_;rintro e w3 ⟨v3,rfl,hown3,hb3⟩;have hz3:=hb3.size;have HT3:=hU ((hb3.block w.heap.size (by omega)).trans HT2.out);have HP3:=hU ((hb3.block (w.heap.size + 1) (by omega)).trans HP2.out);have HR3:=hU ((hb3.block (w.heap.size + 1 + 1) (by omega)).trans HR2.out);have HB3:=hU (Below.to HB2.out hb3);have HO3:=hU hown3;obtain ⟨a3,c3,hv3,_,_⟩:=(hown3.sl gS).shape;generalize List.length _=n3 at hv3;subst hv3;clear hown3 hb3;dsimp only;refine sg ?_;intros;refine (HDEL.out _ W2.heap.size w3 HO3.out (by omega) (aC HP3.out 0) (by omega)).mono ?_;rintro e w4 ⟨v4,rfl,hown4,hb4⟩;have hz4:=hb4.size;have HT4:=hU ((hb4.block w.heap.size (by omega)).trans HT3.out);have HR4:=hU ((hb4.block (w.heap.size + 1 + 1) (by omega)).trans HR3.out);have HB4:=hU (HB3.out.trans (hb4.mono (by omega)));have HO4:=hU (Own.mono (B':=w.heap.size + 1 + 1 + 1) hown4 (by omega));obtain ⟨a4,c4,hv4,_,_⟩:=(hown4.sl gS).shape;generalize List.length _=n4 at hv4;subst hv4;clear hown4 hb4;dsimp only
     repeat' (first
      |(refine aK (v:=.slice a4 n4 c4) (off:=0) (new:=#[.slice a4 n4 c4,.int .i64 5]) rfl rfl rfl rfl uH.size HT4.out rfl (by simp) (by intro u hu;simp [Value.cells] at hu;subst hu;rfl) rfl ?_;intro W5 hp5;(have HT5:=hU hp5.at_);(have HR5:=hU ((hp5.oth (w.heap.size + 1 + 1) (by omega)).trans HR4.out));(have HO5:=hU (Own.put HO4.out hp5 (by omega)));(have HB5:=hU (Below.put HB4.out hp5 (Nat.le_refl _)));clear hp5)
      |(refine aE rfl rfl rfl (aD cM HT5.out rfl) ?_)
      |(refine aK (v:=.agg #[.slice a4 n4 c4,.int .i64 5]) (off:=0) (new:=#[.slice a4 n4 c4,.int .i64 5]) rfl rfl rfl rfl cM.size HR5.out rfl (by simp) qP rfl ?_;intro W6 hp6;(have HR6:=hU hp6.at_);(have HO6:=hU (Own.put HO5.out hp6 (by omega)));(have HB6:=hU (Below.put HB5.out hp6 (by omega)));clear hp6)
      |go_values|go_skip|go_guarded|refine wg ?_|go_step|go_upon)
     (try simp only [Exit.inBlock,Exit.then]);refine bodyPost_ret (cJ results139 cM rfl HR6.out rfl) rfl ?_
     rw [HE.out];exact ⟨_,rfl,⟨_,rfl,HO6.out.sl gS⟩,HB6.out⟩
   · have hki:((k:Int)==0)=false:=by simp [hkz]
     rw [if_neg hkz] at HE;have k0:w1.cell? ⟨w.heap.size,0,none⟩=some (.slice a l.length c):=aC HT.out 0;refine sg ?_;intros;refine (HCL.out w1 HB1.out).mono ?_;rintro e w3 ⟨v3,rfl,hown3,hb3⟩;have hz3:=hb3.size;have HT3:=hU ((hb3.block w.heap.size (by omega)).trans HT.out);have HP3:=hU ((hb3.block (w.heap.size + 1) (by omega)).trans HP.out);have HR3:=hU ((hb3.block (w.heap.size + 1 + 1) (by omega)).trans HR.out);have HB3:=hU (Below.to HB1.out hb3);have HO3:=hU hown3;obtain ⟨a3,c3,hv3,_,_⟩:=(hown3.sl gS).shape;generalize List.length _=n3 at hv3;subst hv3;clear hown3 hb3;dsimp only;refine sg ?_;intros;refine (HDEL.out _ w1.heap.size w3 HO3.out (by omega) (aC HP3.out 0) (by omega)).mono ?_;rintro e w4 ⟨v4,rfl,hown4,hb4⟩;have hz4:=hb4.size;have HT4:=hU ((hb4.block w.heap.size (by omega)).trans HT3.out);have HR4:=hU ((hb4.block (w.heap.size + 1 + 1) (by omega)).trans HR3.out);have HB4:=hU (HB3.out.trans (hb4.mono (by omega)));have HO4:=hU (Own.mono (B':=w.heap.size + 1 + 1 + 1) hown4 (by omega));obtain ⟨a4,c4,hv4,_,_⟩:=(hown4.sl gS).shape;generalize List.length _=n4 at hv4;subst hv4;clear hown4 hb4;dsimp only
     repeat' (first
      |(refine aK (v:=.slice a4 n4 c4) (off:=0) (new:=#[.slice a4 n4 c4,.int .i64 left]) rfl rfl rfl rfl uH.size HT4.out rfl (by simp) (by intro u hu;simp [Value.cells] at hu;subst hu;rfl) rfl ?_;intro W5 hp5;(have HT5:=hU hp5.at_);(have HR5:=hU ((hp5.oth (w.heap.size + 1 + 1) (by omega)).trans HR4.out));(have HO5:=hU (Own.put HO4.out hp5 (by omega)));(have HB5:=hU (Below.put HB4.out hp5 (Nat.le_refl _)));clear hp5)
      |(refine aE rfl rfl rfl (aD cM HT5.out rfl) ?_)
      |(refine aK (v:=.agg #[.slice a4 n4 c4,.int .i64 left]) (off:=0) (new:=#[.slice a4 n4 c4,.int .i64 left]) rfl rfl rfl rfl cM.size HR5.out rfl (by simp) qP rfl ?_;intro W6 hp6;(have HR6:=hU hp6.at_);(have HO6:=hU (Own.put HO5.out hp6 (by omega)));(have HB6:=hU (Below.put HB5.out hp6 (by omega)));clear hp6)
      |go_values|go_skip|go_guarded|refine wg ?_|go_step|go_upon)
     (try simp only [Exit.inBlock,Exit.then]);refine bodyPost_ret (cJ results139 cM rfl HR6.out rfl) rfl ?_
     rw [HE.out];exact ⟨_,rfl,⟨_,rfl,HO6.out.sl gS⟩,HB6.out⟩
 · have HE:=hU (qQi (t:=⟨l,left⟩) hi);have HS1:=hU (HS.out.below HB1.out);rw [hi];clear hi;dsimp only
   repeat' (first
    |(refine aE rfl rfl rfl (aD cM HT.out rfl) ?_)
    |(refine aK (v:=.agg #[.slice a l.length c,.int .i64 left]) (off:=0) rfl rfl rfl rfl cM.size HR.out rfl (by simp) qP rfl ?_;intro W4 hp4;(have HR4:=hU hp4.at_);(have HS4:=hU (Sl.put HS1.out HR.out hp4 (by decide)));(have HB4:=hU (Below.put HB1.out hp4 (by omega)));clear hp4)
    |go_values|go_skip|go_guarded|refine wg ?_|go_step|go_upon)
   (try simp only [Exit.inBlock,Exit.then]);refine bodyPost_ret (cJ results139 cM rfl HR4.out rfl) rfl ?_
   rw [HE.out];exact ⟨_,rfl,⟨_,rfl,HS4.out⟩,HB4.out⟩
theorem qNz (v:Value) (t:jM) (w:World) (h:qC w v t) (hn:t.l.length≤8589934592):Calls prog 134 #[v] w (qDn (jE t) w):=by
 obtain ⟨l,left⟩:=t;obtain ⟨u,rfl,hs⟩:=h;have HS:=hU hs;obtain ⟨a,c,rfl,hnc,hcm⟩:=hs.shape;dsimp only at *;clear hs;obtain ⟨q0,q1⟩:=eF w w.heap.size (.cells #[.slice a l.length c,.int .i64 left] 29) (.cells #[.slice none 0 0,.int .i64 0] 29) rfl;have HT:=hU q0;have HR:=hU q1;have HB1:Hid (Below w.heap.size w ((w.alloc (.cells #[.slice a l.length c,.int .i64 left] 29)).alloc (.cells #[.slice none 0 0,.int .i64 0] 29))):=hU bel;clear q0 q1;match l,HS with
 |[],HS=>
  go_in
  repeat' (first
   |(refine aK (v:=.agg #[.slice a 0 c,.int .i64 left]) (off:=0) (new:=#[.slice a 0 c,.int .i64 left]) rfl rfl rfl rfl cM.size HR.out rfl (by simp) qP rfl ?_;intro W4 hp4;(have HR4:=hU hp4.at_);(have HB4:=hU (Below.put HB1.out hp4 (by omega)));clear hp4)
   |go_values|go_skip|go_guarded|refine wg ?_|go_step|go_upon)
  (try simp only [Exit.inBlock,Exit.then]);refine bodyPost_ret (cJ results134 cM rfl HR4.out rfl) rfl ?_
  exact ⟨_,rfl,⟨_,rfl,Sl.nils hcm⟩,HB4.out⟩
 |x::r,HS=>
  have hlen:¬ ((x::r).length:Int)=0:=by simp;omega
  have hlb:(((x::r).length:Int)==0)=false:=by simp;omega
  have hl1:(1:Int)≤((x::r).length:Int):=by simp;omega
  have hl1':1≤(x::r).length:=by simp
  have hc1:(1:Int)≤(c:Int):=by have:=hnc;simp at this;omega
  have HTY:Hid (jE ⟨x::r,left⟩=⟨r ++ [x],5⟩):=hU rfl;obtain ⟨_,_,_,hel⟩:=HS.out.elem;obtain ⟨b,off,rfl,hbl,_⟩:=hel 0 x rfl;have hrl:r.length≤8589934592:=by simp at hn;omega
  clear hel;have hnr:(x::r).length - 1=r.length:=by simp
  generalize hnn:(x::r).length=n at *;go_in;refine sg ?_;intros;refine wp_region_noPanic ?_;refine RegTail.jD (st:=[9]) (S:=fun W=> W.cell? ⟨w.heap.size,0,none⟩=some (.slice (some ⟨b,off,none⟩) n c)) (by kernel_rfl) ?_;have hS:(fun W:World=> W.cell? ⟨w.heap.size,0,none⟩=some (.slice (some ⟨b,off,none⟩) n c)) ((w.alloc (.cells #[.slice (some ⟨b,off,none⟩) n c,.int .i64 left] 29)).alloc (.cells #[.slice none 0 0,.int .i64 0] 29)).drew:=aC HT.out 0;(refine RegTail.tl 0 ?_);(try simp only [RegT3.aF])
  (refine RegTail.tl 1 ?_);(try simp only [RegT3.aF])
  (refine RegTail.tl 2 ?_);(try simp only [RegT3.aF])
  (refine RegTail.tl 3 ?_);(try simp only [RegT3.aF])
  (refine RegTail.tl 4 ?_);(try simp only [RegT3.aF])
  (refine RegTail.tl 5 ?_);(try simp only [RegT3.aF])
  (refine RegTail.ro 6 fun K hK=> ?_)
  go_simp;have HX:=hU (fZ ((w.alloc (.cells #[.slice (some ⟨b,off,none⟩) n c,.int .i64 left] 29)).alloc (.cells #[.slice none 0 0,.int .i64 0] 29)) (.cells #[.slice (if c=1 then some ⟨b,off,none⟩ else some ⟨b,off + 1,none⟩) r.length (c - 1),.slice (some ⟨b,off,none⟩) 1 c] 27));have HBX:Hid (Below w.heap.size w (((w.alloc (.cells #[.slice (some ⟨b,off,none⟩) n c,.int .i64 left] 29)).alloc (.cells #[.slice none 0 0,.int .i64 0] 29)).alloc (.cells #[.slice (if c=1 then some ⟨b,off,none⟩ else some ⟨b,off + 1,none⟩) r.length (c - 1),.slice (some ⟨b,off,none⟩) 1 c] 27)).drew):=hU (Below.drew (HB1.out.alloc (by simp;omega) _));have HTX:=hU (hold (o:=.cells #[.slice (if c=1 then some ⟨b,off,none⟩ else some ⟨b,off + 1,none⟩) r.length (c - 1),.slice (some ⟨b,off,none⟩) 1 c] 27) HT.out);have HRX:=hU (hold (o:=.cells #[.slice (if c=1 then some ⟨b,off,none⟩ else some ⟨b,off + 1,none⟩) r.length (c - 1),.slice (some ⟨b,off,none⟩) 1 c] 27) HR.out);refine hK.out _ _ (fun _=> aC HTX.out 0) ?_;clear hK K;(refine RegTail.ro 7 fun K hK=> ?_)
  refine RegTail.want rfl ?_;go_simp;have hdr:=Sl.drop HS.out 1 hl1' (a':=if c=1 then some ⟨b,off,none⟩ else some ⟨b,off + 1,none⟩) (fun b' off' hb=> by injection hb with hb;injection hb with hb1 hb2 _;subst hb1 hb2;rfl);have htk:=Sl.take HS.out 1 hl1';rw [hnr] at hdr;refine (qHz _ _ r [x] (w.heap.size + 1 + 1) _ (hdr.below HBX.out) (htk.below HBX.out) (by have h:=HX.out;simp only [World.size_alloc] at h;exact h) hrl (by simp)).mono ?_;rintro e w3 ⟨v3,rfl,hown,hb3⟩;have hz3:=hb3.size;simp at hz3;have HR3:=hU ((hb3.block (w.heap.size + 1) (by simp)).trans HRX.out);have HT3:=hU ((hb3.block w.heap.size (by simp;omega)).trans HTX.out);have HB3:=hU (Below.to HBX.out hb3);have HO3:=hU (Own.mono (B':=w.heap.size + 1 + 1) hown (by simp));obtain ⟨a3,c3,hv3,_,_⟩:=(hown.sl gS).shape;generalize List.length _=n3 at hv3;subst hv3;clear hown hb3 hdr htk;dsimp only;refine hK.out _ _ (fun _=> aC HT3.out 0) ?_;clear hK K;have hS3:(fun W:World=> W.cell? ⟨w.heap.size,0,none⟩=some (.slice (some ⟨b,off,none⟩) n c)) w3:=aC HT3.out 0;(refine RegTail.tl 8 ?_);(try simp only [RegT3.aF])
  (refine RegTail.ro 9 fun K hK=> ?_)
  refine RegTail.want rfl ?_;refine cL (v:=.agg #[.slice a3 n3 c3,.int .i64 5]) (off:=0) (new:=#[.slice a3 n3 c3,.int .i64 5]) rfl rfl rfl cM.size HR3.out rfl (by simp) qP rfl ?_;intro W4 hp4;have HR4:=hU hp4.at_;have HO4:=hU (Own.put HO3.out hp4 (by omega));have HB4:=hU (Below.put HB3.out hp4 (by omega));clear hp4;refine hK.out _ _ (fun h=> absurd h (by decide)) ?_;clear hK K;refine RegTail.aZ (by kernel_rfl) (NoPanic.normal ?_) _;refine sg ?_;intros;(try simp only [Exit.inBlock,Exit.then]);refine bodyPost_ret (cJ results134 cM rfl HR4.out rfl) rfl ?_
  rw [HTY.out];exact ⟨_,rfl,⟨_,rfl,HO4.out.sl gS⟩,HB4.out⟩
theorem qNy (v:Value) (t:jM) (w:World) (h:qC w v t) (hn:t.l.length≤8589934592) (hl: -4611686018427387904≤t.left∧t.left≤4611686018427387904):Calls prog 89 #[v] w (qDn (gO t) w):=by
 obtain ⟨l,left⟩:=t;obtain ⟨u,rfl,hs⟩:=h;have HS:=hU hs;have HY:=hU (fun W (hb:Below w.heap.size w W)=> qNz (.agg #[u,.int .i64 (left - 1)]) ⟨l,left - 1⟩ W ⟨u,rfl,hs.below hb⟩ hn);obtain ⟨a,c,rfl,hnc,hcm⟩:=hs.shape;dsimp only at *;clear hs;obtain ⟨q0,q1⟩:=eF w w.heap.size (.cells #[.slice a l.length c,.int .i64 left] 29) (.cells #[.slice none 0 0,.int .i64 0] 29) rfl;have HT:=hU q0;have HR:=hU q1;have HB1:Hid (Below w.heap.size w ((w.alloc (.cells #[.slice a l.length c,.int .i64 left] 29)).alloc (.cells #[.slice none 0 0,.int .i64 0] 29))):=hU bel;have hw:IntKind.i64.wrap (left - 1)=left - 1:=by rw [IntKind.wrap_i64];omega
 clear q0 q1;by_cases hl0:l=[]
 · subst hl0;have HE:Hid (gO ⟨[],left⟩=⟨[],left⟩):=hU rfl;go_in
   repeat' (first
    |(refine aK (v:=.agg #[.slice a 0 c,.int .i64 left]) (off:=0) (new:=#[.slice a 0 c,.int .i64 left]) rfl rfl rfl rfl cM.size HR.out rfl (by simp) qP rfl ?_;intro W4 hp4;(have HR4:=hU hp4.at_);(have HB4:=hU (Below.put HB1.out hp4 (by omega)));clear hp4)
    |go_values|go_skip|go_guarded|refine wg ?_|go_step|go_upon)
   (try simp only [Exit.inBlock,Exit.then]);refine bodyPost_ret (cJ results89 cM rfl HR4.out rfl) rfl ?_
   rw [HE.out];exact ⟨_,rfl,⟨_,rfl,Sl.nils hcm⟩,HB4.out⟩
 · have hlb:((l.length:Int)==0)=false:=by simp [hl0]
   have hlz:¬ (l.length:Int)=0:=by simp [hl0]
   have HE:Hid (gO ⟨l,left⟩=if left - 1≤0 then jE ⟨l,left - 1⟩ else ⟨l,left - 1⟩):=hU (by rw [gO,if_neg hl0]);go_in;by_cases hle:left - 1≤0
   · rw [if_pos hle] at HE
     repeat' (first
      |(refine aK (v:=.int .i64 (left - 1)) (off:=1) (new:=#[.slice a l.length c,.int .i64 (left - 1)]) rfl rfl rfl rfl cO.size HT.out rfl (by simp) (gJ _) rfl ?_;intro W2 hp2;(have HT2:=hU hp2.at_);(have HR2:=hU ((hp2.oth (w.heap.size + 1) (by omega)).trans HR.out));(have hz2:=hp2.size);(have HB2:=hU (Below.put HB1.out hp2 (Nat.le_refl _)));clear hp2;have k1:W2.cell? ⟨w.heap.size,1,none⟩=some (.int .i64 (left - 1)):=aC HT2.out 1)
      |(refine aE rfl rfl rfl (aD cM HT2.out rfl) ?_)
      |go_values|go_skip|go_guarded|refine wg ?_|go_step|go_upon)
     refine (HY.out W2 HB2.out).mono ?_;rintro e w3 ⟨v3,rfl,⟨u3,rfl,hs3⟩,hb3⟩;simp at hz2;have hz3:=hb3.size;have HR3:=hU ((hb3.block (w.heap.size + 1) (by omega)).trans HR2.out);have HB3:=hU (Below.to HB2.out hb3);have HS3:=hU hs3;obtain ⟨a3,c3,rfl,_,_⟩:=hs3.shape;clear hs3 hb3;generalize jE ⟨l,left - 1⟩=ty at *;obtain ⟨yl,yleft⟩:=ty;dsimp only at *;generalize hyn:yl.length=yn at *
     repeat' (first
      |(refine aK (v:=.agg #[.slice a3 yn c3,.int .i64 yleft]) (off:=0) (new:=#[.slice a3 yn c3,.int .i64 yleft]) rfl rfl rfl rfl cM.size HR3.out rfl (by simp) qP rfl ?_;intro W4 hp4;(have HR4:=hU hp4.at_);(have HS4:=hU (Sl.put HS3.out HR3.out hp4 (by decide)));(have HB4:=hU (Below.put HB3.out hp4 (by omega)));clear hp4)
      |go_values|go_skip|go_guarded|refine wg ?_|go_step|go_upon)
     (try simp only [Exit.inBlock,Exit.then]);refine bodyPost_ret (cJ results89 cM rfl HR4.out rfl) rfl ?_
     rw [HE.out];exact ⟨_,rfl,⟨_,rfl,HS4.out⟩,HB4.out⟩
   · rw [if_neg hle] at HE;have HSX:=hU (HS.out.below HB1.out)
     repeat' (first
      |(refine aK (v:=.int .i64 (left - 1)) (off:=1) (new:=#[.slice a l.length c,.int .i64 (left - 1)]) rfl rfl rfl rfl cO.size HT.out rfl (by simp) (gJ _) rfl ?_;intro W2 hp2;(have HT2:=hU hp2.at_);(have HR2:=hU ((hp2.oth (w.heap.size + 1) (by omega)).trans HR.out));(have HS2:=hU (Sl.put HSX.out HT.out hp2 (by decide)));(have HB2:=hU (Below.put HB1.out hp2 (Nat.le_refl _)));clear hp2;have k1:W2.cell? ⟨w.heap.size,1,none⟩=some (.int .i64 (left - 1)):=aC HT2.out 1)
      |(refine aE rfl rfl rfl (aD cM HT2.out rfl) ?_)
      |(refine aK (v:=.agg #[.slice a l.length c,.int .i64 (left - 1)]) (off:=0) (new:=#[.slice a l.length c,.int .i64 (left - 1)]) rfl rfl rfl rfl cM.size HR2.out rfl (by simp) qP rfl ?_;intro W4 hp4;(have HR4:=hU hp4.at_);(have HS4:=hU (Sl.put HS2.out HR2.out hp4 (by decide)));(have HB4:=hU (Below.put HB2.out hp4 (by omega)));clear hp4)
      |go_values|go_skip|go_guarded|refine wg ?_|go_step|go_upon)
     (try simp only [Exit.inBlock,Exit.then]);refine bodyPost_ret (cJ results89 cM rfl HR4.out rfl) rfl ?_
     rw [HE.out];exact ⟨_,rfl,⟨_,rfl,HS4.out⟩,HB4.out⟩
