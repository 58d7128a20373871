/- What the kernel's comparisons want of arrays and rows. Conditions: as told. -/
import Derived.Test.YtfncknignkndiaaGreatDoorGCpuA
import Derived.Test.YtfncknignkndiaaGreatDoorGWork
import Derived.Laws.StructEq
set_option linter.unusedVariables false
set_option maxRecDepth 100000
set_option maxHeartbeats 8000000
set_option linter.unusedSimpArgs false
namespace Go.Proofs.YtfncknignkndiaaGreatDoor
open Tryz
open Go
section
variable {P:Program} (w:World)
theorem run_forIn_range (d:Nat) (e:TypeId) (n:Nat) (xs ys:Array Value):∀ (k i:Nat) (w:World),
 ((do
   let r ← forIn (List.range' i k) ((none,()):Option Bool × Unit) (fun j _=> do
    let a ← part e xs (j * n)
    let b ← part e ys (j * n)
    let r ← Op.equalIn d e a b
    if (!r)=true then pure (ForInStep.done (some false,())) else pure (ForInStep.yield (none,())))
   match r.fst with
   |some a=> pure a
   |none=> pure true):Sem Bool).run P w=(qOw d e n xs ys i k).run P w:=by
 intro k;induction k with
 |zero=> intro i w;simp [qOw]
 |succ k ih=>
  intro i w;simp only [List.range'_succ,List.forIn_cons,qOw,Sem.run_bind];generalize (part e xs (i * n)).run P w=r1;cases r1 with
  |ok a w1=>
   simp only [Result.andThen_ok];generalize (part e ys (i * n)).run P w1=r2;cases r2 with
   |ok b w2=>
    simp only [Result.andThen_ok];generalize (Op.equalIn d e a b).run P w2=r3;cases r3 with
    |ok r w3=>
     cases r
     · simp
     · have:=ih (i + 1) w3
       simp only [Sem.run_bind] at this;simpa using this
    |halt x w3=> simp [Result.andThen]
   |halt x w2=> simp [Result.andThen]
  |halt x w1=> simp [Result.andThen]
theorem run_equalIn_array (d:Nat) (t:TypeId) (xs ys:Array Value) (i:TypeInfo) (ht:P.underlying t=some (.array (qZe P t).1 (qZe P t).2)) (hn:P.info? (qZe P t).2=some i):
 (Op.equalIn (d + 1) t (.agg xs) (.agg ys)).run P w=(qOw d (qZe P t).2 i.size xs ys 0 (qZe P t).1).run P w:=by
 rw [← run_forIn_range];simp [Op.equalIn,run_underlying ht,sizeOf,typeInfo,hn,Std.Legacy.Range.forIn_eq_forIn_range',Std.Legacy.Range.size];refine congrArg (fun f=> Result.andThen _ f) ?_;funext a w'
 rcases a with ⟨_|_,_⟩ <;> rfl
end
theorem info_word:(prog.info? 109).map (fun i=> i.size)=some 1:=by kernel_rfl
theorem arr_regs (d:Nat) (W:World) (xs ys:Array Value):(Op.equalIn (d + 1) 112 (.agg xs) (.agg ys)).run prog W=(qOw d 109 1 xs ys 0 8).run prog W:=by
 obtain ⟨i,hi,hs⟩:=Option.map_eq_some_iff.1 info_word;have e:qZe prog 112=(8,109):=by unfold qZe;rw [underlying112]
 have h:=run_equalIn_array (P:=prog) W d 112 xs ys i (by rw [e];exact underlying112) (by rw [e];exact hi);rw [e,hs] at h;exact h
open Go.RowKit KR
namespace Kn
theorem aggEv:Agg prog 127 4:=gD underlying127 rfl (by kernel_rfl)
theorem aggOut:Agg prog 194 2:=gD underlying194 rfl (by kernel_rfl)
theorem oneSChan:One prog 36:=gU underlying36 rfl (by kernel_rfl)
theorem oneSStr:One prog 22:=gU underlying22 rfl (by kernel_rfl)
end Kn
end Go.Proofs.YtfncknignkndiaaGreatDoor
namespace Go.Proofs.YtfncknignkndiaaGreatDoor
open Tryz
open Go.RowKit KR RegT3
namespace Kn
def SameR (w:World) (n:Nat) (iv:Value) (wr:World):Prop:=∃ k:Nat,k≤n∧iv=.int .i64 k∧Below w.heap.size w wr
theorem info_end:(prog.info? 116).map (fun i=> i.size)=some 2:=by kernel_rfl
theorem arr_fds (d:Nat) (W:World) (xs ys:Array Value):(Op.equalIn (d + 1) 117 (.agg xs) (.agg ys)).run prog W=(qOw d 116 2 xs ys 0 4).run prog W:=by
 obtain ⟨i,hi,hs⟩:=Option.map_eq_some_iff.1 info_end;have e:qZe prog 117=(4,116):=by unfold qZe;rw [underlying117]
 have h:=run_equalIn_array (P:=prog) W d 117 xs ys i (by rw [e];exact underlying117) (by rw [e];exact hi);rw [e,hs] at h;exact h
theorem neqProc (x:Proc) (W:World):(binOp .neq 121 (.agg (Proc.cells x)) (.agg (Proc.cells x))).run prog W=.ok (.bool false) W:=by
 have hA:=arr_regs;have hF:=arr_fds;unfold Proc.cells;go_simp
theorem neqAlarm (x:Alarm) (W:World):(binOp .neq 48 (.agg (Alarm.cells x)) (.agg (Alarm.cells x))).run prog W=.ok (.bool false) W:=by
 unfold Alarm.cells;go_simp
theorem neqPipe (x:cG) (W:World):(binOp .neq 191 (.agg (cG.cells x)) (.agg (cG.cells x))).run prog W=.ok (.bool false) W:=by
 unfold cG.cells;go_simp
theorem neqSpan (x:Span) (W:World):(binOp .neq 208 (.agg (Span.cells x)) (.agg (Span.cells x))).run prog W=.ok (.bool false) W:=by
 unfold Span.cells;go_simp
theorem neqEv (x:Ev) (W:World):(binOp .neq 127 (.agg (Ev.cells x)) (.agg (Ev.cells x))).run prog W=.ok (.bool false) W:=by
 unfold Ev.cells;go_simp
theorem neqOut (x:Out) (W:World):(binOp .neq 194 (.agg (Out.cells x)) (.agg (Out.cells x))).run prog W=.ok (.bool false) W:=by
 unfold Out.cells;go_simp
theorem neqChan (x:cS) (W:World):(binOp .neq 102 (.agg (cS.cells x)) (.agg (cS.cells x))).run prog W=.ok (.bool false) W:=by
 unfold cS.cells;go_simp
theorem neqMsg (x:Msg) (W:World):(binOp .neq 196 (.agg (Msg.cells x)) (.agg (Msg.cells x))).run prog W=.ok (.bool false) W:=by
 unfold Msg.cells;go_simp
abbrev El (E:TypeId) (sz:Nat) (w:World) (a1 a2:Option Addr) (n:Nat):Prop:=∀ k,k<n→∃ g1 o1 g2 o2,∃ cs:Array Value,∃ S:World→Prop,a1=some ⟨g1,o1,none⟩∧a2=some ⟨g2,o2,none⟩∧(∀ W,Below w.heap.size w W→S W)∧(∀ W,S W→(Instr.loadAt E (.pointer (some ⟨g1,o1 + k * sz,none⟩))).run prog W=.ok (.agg cs) W)∧
 (∀ W,S W→(Instr.loadAt E (.pointer (some ⟨g2,o2 + k * sz,none⟩))).run prog W=.ok (.agg cs) W)∧∀ W:World,(binOp .neq E (.agg cs) (.agg cs)).run prog W=.ok (.bool false) W
theorem elem2 {α:Type} {E:TypeId} {sz:Nat} {f:α→Array Value} {w:World} {a1 a2:Option Addr} {n c1 c2:Nat} {l:List α} (ha:Agg prog E sz) (hf:∀ x,(f x).size=sz) (hq:∀ (x:α) (W:World),(binOp .neq E (.agg (f x)) (.agg (f x))).run prog W=.ok (.bool false) W)
 (h1:Sl E sz f w (.slice a1 n c1) l) (h2:Sl E sz f w (.slice a2 n c2) l):El E sz w a1 a2 n:=fun k hk=> by
 obtain ⟨hn,_,_,e1⟩:=h1.elem;obtain ⟨x,hx⟩:∃ x,l[k]? =some x:=⟨_,List.getElem?_eq_getElem (by omega)⟩
 obtain ⟨g1,o1,he1,_,q1⟩:=e1 k x hx;obtain ⟨g2,o2,he2,_,q2⟩:=h2.elem.2.2.2 k x hx;exact ⟨g1,o1,g2,o2,f x,fun W=> (∀ j u,(f x)[j]? =some u→W.cell? ⟨g1,o1 + k * sz + j,none⟩=some u)∧∀ j u,(f x)[j]? =some u→W.cell? ⟨g2,o2 + k * sz + j,none⟩=some u,he1,he2,fun W h=> ⟨q1 W h,q2 W h⟩,fun W h=> cA ha (hf x) h.1,fun W h=> cA ha (hf x) h.2,hq x⟩
abbrev EqSt (F:FuncId) (E:TypeId) (sz:Nat):Prop:=∀ (w:World) (a1 a2:Option Addr) (n c1 c2:Nat),n≤9223372036854775807→El E sz w a1 a2 n→Calls prog F #[.slice a1 n c1,.slice a2 n c2] w (aN (.bool true) w)
theorem eq_of {α:Type} {F:FuncId} {E:TypeId} {sz:Nat} {f:α→Array Value} {w:World} {u v:Value} {l:List α} (h:EqSt F E sz) (ha:Agg prog E sz) (hf:∀ x,(f x).size=sz) (hq:∀ (x:α) (W:World),(binOp .neq E (.agg (f x)) (.agg (f x))).run prog W=.ok (.bool false) W)
 (h1:Sl E sz f w u l) (h2:Sl E sz f w v l):Calls prog F #[u,v] w (aN (.bool true) w):=by
 obtain ⟨a1,c1,rfl,hm1,hm2⟩:=h1.shape;obtain ⟨a2,c2,rfl,_,_⟩:=h2.shape;exact h w a1 a2 _ c1 c2 (Nat.le_trans hm1 hm2) (elem2 ha hf hq h1 h2)
theorem SameEv (u v:Value) (l:List Ev) (w:World) (h1:Sl 127 4 Ev.cells w u l) (h2:Sl 127 4 Ev.cells w v l) (hn:l.length≤9223372036854775807):Calls prog 58 #[u,v] w (aN (.bool true) w):=by
 obtain ⟨a1,c1,rfl,_,_⟩:=h1.shape;obtain ⟨a2,c2,rfl,_,_⟩:=h2.shape;have H1:=hU h1.elem.2.2.2;have H2:=hU h2.elem.2.2.2;clear h1 h2;go_in;refine sg ?_;intros;go_loopw [5] (fun iv wr=> SameR w l.length iv wr) (fun iv _=> l.length - (intOf iv).toNat)
 case atStart=> exact ⟨0,Nat.zero_le _,rfl,Below.refl _ _⟩
 case round=>
  obtain ⟨k,hk,rfl,hb⟩:=hrel;by_cases hkl:k<l.length
  · obtain ⟨x,hx⟩:∃ x,l[k]? =some x:=⟨_,List.getElem?_eq_getElem hkl⟩
    obtain ⟨g1,o1,rfl,_,hc1⟩:=H1.out k x hx;obtain ⟨g2,o2,rfl,_,hc2⟩:=H2.out k x hx;have HC1:=hU hc1;have HC2:=hU hc2;have HB:=hU hb;have hj1:(k:Int)<(l.length:Int):=by omega
    have hj0:(0:Int)≤(k:Int):=by omega
    clear hc1 hc2 hb hx H1 H2;have hq:=neqEv x;refine sg ?_;intros;refine wp_region_noPanic ?_;refine go0 (S:=fun W=> (∀ j u,(Ev.cells x)[j]? =some u→W.cell? ⟨g1,o1 + k * 4 + j,none⟩=some u)∧(∀ j u,(Ev.cells x)[j]? =some u→W.cell? ⟨g2,o2 + k * 4 + j,none⟩=some u)) [] (⟨HC1.out _ HB.out.drew,HC2.out _ HB.out.drew⟩) fun hS=> ?_;refine ts [.p 0,.p 1,.p 2] ?_;refine tv 3 (.agg (Ev.cells x)) (fun W hSW=> aR rfl rfl (cA aggEv rfl hSW.1)) ?_;(try simp only [aF])
    refine ts [.p 4,.p 5,.p 6] ?_;refine tv 7 (.agg (Ev.cells x)) (fun W hSW=> aR rfl rfl (cA aggEv rfl hSW.2)) ?_;(try simp only [aF])
    refine tp 8 ?_;try simp only [aF]
    refine aZ (by kernel_rfl) (NoPanic.normal ?_) _;clear hS;refine sg ?_;intros;exact ⟨⟨k + 1,by omega,by go_num,HB.out.drew⟩,by simp [intOf];omega⟩
  · have HB:=hU hb;clear hb;refine sg ?_;intros;go_ret;exact cF rfl HB.out
theorem allSame:EqSt 53 121 26∧EqSt 55 48 2∧EqSt 56 191 3∧EqSt 106 208 3∧EqSt 59 194 2∧EqSt 60 102 5:=by
 refine ⟨?_,?_,?_,?_,?_,?_⟩
 all_goals
  intro w a1 a2 n c1 c2 hn he;have HE:=hU he;clear he;go_in;refine sg ?_;intros;go_loopw [5] (fun iv wr=> SameR w n iv wr) (fun iv _=> n - (intOf iv).toNat)
  case atStart=> exact ⟨0,Nat.zero_le _,rfl,Below.refl _ _⟩
  case round=>
   obtain ⟨k,hk,rfl,hb⟩:=hrel;have HB:=hU hb;clear hb;by_cases hkl:k<n
   · obtain ⟨g1,o1,g2,o2,cs,S,rfl,rfl,hS,l1,l2,hq⟩:=HE.out k hkl;have HS:=hU hS;have H1:=hU l1;have H2:=hU l2;have hj1:(k:Int)<(n:Int):=by omega
     have hj0:(0:Int)≤(k:Int):=by omega
     clear hS l1 l2;refine sg ?_;intros;refine wp_region_noPanic ?_;refine go0 (S:=S) [] (HS.out _ HB.out.drew) fun hS=> ?_;refine ts [.p 0,.p 1,.p 2] ?_;refine tv 3 (.agg cs) (fun W hSW=> aR rfl rfl (H1.out W hSW)) ?_;(try simp only [aF])
     refine ts [.p 4,.p 5,.p 6] ?_;refine tv 7 (.agg cs) (fun W hSW=> aR rfl rfl (H2.out W hSW)) ?_;(try simp only [aF])
     refine tp 8 ?_;try simp only [aF]
     refine aZ (by kernel_rfl) (NoPanic.normal ?_) _;clear hS;refine sg ?_;intros;exact ⟨⟨k + 1,by omega,by go_num,HB.out.drew⟩,by simp [intOf];omega⟩
   · refine sg ?_;intros;go_ret;exact cF rfl HB.out
theorem SameProc (u v:Value) (l:List Proc) (w:World) (h1:Sl 121 26 Proc.cells w u l) (h2:Sl 121 26 Proc.cells w v l) (hn:l.length≤9223372036854775807):Calls prog 53 #[u,v] w (aN (.bool true) w):=eq_of allSame.1 aL eE neqProc h1 h2
theorem SameAlarm (u v:Value) (l:List Alarm) (w:World) (h1:Sl 48 2 Alarm.cells w u l) (h2:Sl 48 2 Alarm.cells w v l) (hn:l.length≤9223372036854775807):Calls prog 55 #[u,v] w (aN (.bool true) w):=eq_of allSame.2.1 jH pR neqAlarm h1 h2
theorem SamePipe (u v:Value) (l:List cG) (w:World) (h1:Sl 191 3 cG.cells w u l) (h2:Sl 191 3 cG.cells w v l) (hn:l.length≤9223372036854775807):Calls prog 56 #[u,v] w (aN (.bool true) w):=eq_of allSame.2.2.1 iD fB neqPipe h1 h2
theorem SameSpan (u v:Value) (l:List Span) (w:World) (h1:Sl 208 3 Span.cells w u l) (h2:Sl 208 3 Span.cells w v l) (hn:l.length≤9223372036854775807):Calls prog 106 #[u,v] w (aN (.bool true) w):=eq_of allSame.2.2.2.1 qDs lP neqSpan h1 h2
theorem SameOut (u v:Value) (l:List Out) (w:World) (h1:Sl 194 2 Out.cells w u l) (h2:Sl 194 2 Out.cells w v l) (hn:l.length≤9223372036854775807):Calls prog 59 #[u,v] w (aN (.bool true) w):=eq_of allSame.2.2.2.2.1 aggOut qUp neqOut h1 h2
theorem SameChan (u v:Value) (l:List cS) (w:World) (h1:Sl 102 5 cS.cells w u l) (h2:Sl 102 5 cS.cells w v l) (hn:l.length≤9223372036854775807):Calls prog 60 #[u,v] w (aN (.bool true) w):=eq_of allSame.2.2.2.2.2 tR iO neqChan h1 h2
theorem SameInt (u v:Value) (l:List Int) (w:World) (h1:Sl 3 1 dC w u l) (h2:Sl 3 1 dC w v l) (hn:l.length≤9223372036854775807):Calls prog 105 #[u,v] w (aN (.bool true) w):=by
 obtain ⟨a1,c1,rfl,_,_⟩:=h1.shape;obtain ⟨a2,c2,rfl,_,_⟩:=h2.shape;have H1:=hU h1.elem.2.2.2;have H2:=hU h2.elem.2.2.2;clear h1 h2;go_in;refine sg ?_;intros;go_loopw [5] (fun iv wr=> SameR w l.length iv wr) (fun iv _=> l.length - (intOf iv).toNat)
 case atStart=> exact ⟨0,Nat.zero_le _,rfl,Below.refl _ _⟩
 case round=>
  obtain ⟨k,hk,rfl,hb⟩:=hrel;by_cases hkl:k<l.length
  · obtain ⟨x,hx⟩:∃ x,l[k]? =some x:=⟨_,List.getElem?_eq_getElem hkl⟩
    obtain ⟨g1,o1,rfl,_,hc1⟩:=H1.out k x hx;obtain ⟨g2,o2,rfl,_,hc2⟩:=H2.out k x hx;have HC1:=hU hc1;have HC2:=hU hc2;have HB:=hU hb;have hj1:(k:Int)<(l.length:Int):=by omega
    have hj0:(0:Int)≤(k:Int):=by omega
    clear hc1 hc2 hb hx H1 H2;refine sg ?_;intros;refine wp_region_noPanic ?_;refine go0 (S:=fun W=> (W.cell? ⟨g1,o1 + k,none⟩=some (.int .i64 x))∧(W.cell? ⟨g2,o2 + k,none⟩=some (.int .i64 x))) [] (⟨by simpa using HC1.out _ HB.out.drew 0 (.int .i64 x) rfl,by simpa using HC2.out _ HB.out.drew 0 (.int .i64 x) rfl⟩) fun hS=> ?_;refine ts [.p 0,.p 1,.p 2,.l 3,.p 4,.p 5,.p 6,.l 7,.p 8] ?_;refine aZ (by kernel_rfl) (NoPanic.normal ?_) _;clear hS;refine sg ?_;intros;exact ⟨⟨k + 1,by omega,by go_num,HB.out.drew⟩,by simp [intOf];omega⟩
  · have HB:=hU hb;clear hb;refine sg ?_;intros;go_ret;exact cF rfl HB.out
theorem SameTurn (u v:Value) (t:jM) (w:World) (h1:SlI w u t.l) (h2:SlI w v t.l) (hn:t.l.length≤9223372036854775807):Calls prog 54 #[.agg #[u,.int .i64 t.left],.agg #[v,.int .i64 t.left]] w (aN (.bool true) w):=by
 obtain ⟨q0,q1⟩:=eF w w.heap.size (.cells #[u,.int .i64 t.left] 29) (.cells #[v,.int .i64 t.left] 29) rfl;have hb0:Below w.heap.size w ((w.alloc (.cells #[u,.int .i64 t.left] 29)).alloc (.cells #[v,.int .i64 t.left] 29)):=bel;obtain ⟨W0,hW0⟩:=exW ((w.alloc (.cells #[u,.int .i64 t.left] 29)).alloc (.cells #[v,.int .i64 t.left] 29));rw [hW0] at q0 q1 hb0;have HC:=hU (SameInt u v t.l W0 (h1.below hb0) (h2.below hb0) hn);have HB:=hU hb0;have H0:=hU q0;have H1:=hU q1;have a0:=aC q0 0;have b0:=aC q1 0;clear q0 q1 hb0 h1 h2;go_in;repeat' (first|(rw [hW0];clear hW0)|go_values|go_skip|go_guarded|refine wg ?_|go_step|go_upon)
 refine HC.out.mono ?_;rintro er W1 ⟨rfl,hb⟩;have a1:=aC (nB hb H0).out 1;have b1:=aC (nB hb H1).out 1;have HB1:=hU (HB.out.trans (hb.mono HB.out.size));clear a0 b0 hb;dsimp only;refine sg ?_;intros;go_ret;exact cF (by simp) HB1.out
theorem SameHeap (u v:Value) (l:List Span) (n:Int) (w:World) (h1:SlS w u l) (h2:SlS w v l) (hn:l.length≤9223372036854775807):Calls prog 57 #[.agg #[.int .i64 n,u],.agg #[.int .i64 n,v]] w (aN (.bool true) w):=by
 obtain ⟨q0,q1⟩:=eF w w.heap.size (.cells #[.int .i64 n,u] 34) (.cells #[.int .i64 n,v] 34) rfl;have hb0:Below w.heap.size w ((w.alloc (.cells #[.int .i64 n,u] 34)).alloc (.cells #[.int .i64 n,v] 34)):=bel;obtain ⟨W0,hW0⟩:=exW ((w.alloc (.cells #[.int .i64 n,u] 34)).alloc (.cells #[.int .i64 n,v] 34));rw [hW0] at q0 q1 hb0;have HC:=hU (SameSpan u v l W0 (h1.below hb0) (h2.below hb0) hn);have HB:=hU hb0;have H0:=hU q0;have H1:=hU q1;have a0:=aC q0 1;have b0:=aC q1 1;clear q0 q1 hb0 h1 h2;go_in;repeat' (first|(rw [hW0];clear hW0)|go_values|go_skip|go_guarded|refine wg ?_|go_step|go_upon)
 refine HC.out.mono ?_;rintro er W1 ⟨rfl,hb⟩;have a1:=aC (nB hb H0).out 0;have b1:=aC (nB hb H1).out 0;have HB1:=hU (HB.out.trans (hb.mono HB.out.size));clear a0 b0 hb;dsimp only;refine sg ?_;intros;go_ret;exact cF (by simp) HB1.out
def SameR2 (w:World) (ca cb:Array Value) (T:TypeId) (n:Nat) (iv:Value) (wr:World):Prop:=∃ k:Nat,k≤n∧iv=.int .i64 k∧wr.heap[w.heap.size]? =some (.cells ca T (0,0))∧wr.heap[w.heap.size + 1]? =some (.cells cb T (0,0))∧Below w.heap.size w wr
theorem SameBox (a1 a2:Option Addr) (c1 c2:Nat) (l:List Msg) (lost:Int) (w:World) (h1:lG w ⟨a1,c1,⟨l,lost⟩⟩) (h2:lG w ⟨a2,c2,⟨l,lost⟩⟩) (hn:l.length≤9223372036854775807):Calls prog 61 #[.agg #[.slice a1 l.length c1,.int .i64 lost],.agg #[.slice a2 l.length c2,.int .i64 lost]] w (aN (.bool true) w):=by
 unfold lG at h1 h2;dsimp only at h1 h2;have H1:=hU h1.elem.2.2.2;have H2:=hU h2.elem.2.2.2;clear h1 h2;obtain ⟨q0,q1⟩:=eF w w.heap.size (.cells #[.slice a1 l.length c1,.int .i64 lost] 145) (.cells #[.slice a2 l.length c2,.int .i64 lost] 145) rfl;have hb0:Below w.heap.size w ((w.alloc (.cells #[.slice a1 l.length c1,.int .i64 lost] 145)).alloc (.cells #[.slice a2 l.length c2,.int .i64 lost] 145)):=bel;obtain ⟨W0,hW0⟩:=exW ((w.alloc (.cells #[.slice a1 l.length c1,.int .i64 lost] 145)).alloc (.cells #[.slice a2 l.length c2,.int .i64 lost] 145));rw [hW0] at q0 q1 hb0;have x0:=aC q0 0;have y0:=aC q1 0;have x1:=aC q0 1;have y1:=aC q1 1;have HB:=hU hb0;have Q0:=hU q0;have Q1:=hU q1;clear q0 q1 hb0;go_in;repeat' (first|(rw [hW0];clear hW0)|go_values|go_skip|go_guarded|refine wg ?_|go_step|go_upon)
 go_loopw [5] (fun iv wr=> SameR2 w #[.slice a1 l.length c1,.int .i64 lost] #[.slice a2 l.length c2,.int .i64 lost] 145 l.length iv wr) (fun iv _=> l.length - (intOf iv).toNat)
 case atStart=> exact ⟨0,Nat.zero_le _,rfl,Q0.out,Q1.out,HB.out⟩
 case round=>
  clear x0 y0 x1 y1 HB Q0 Q1;obtain ⟨k,hk,rfl,hq0,hq1,hb⟩:=hrel;have HB:=hU hb;have x0:=aC hq0 0;by_cases hkl:k<l.length
  · obtain ⟨x,hx⟩:∃ x,l[k]? =some x:=⟨_,List.getElem?_eq_getElem hkl⟩
    obtain ⟨g1,o1,rfl,_,hc1⟩:=H1.out k x hx;obtain ⟨g2,o2,rfl,_,hc2⟩:=H2.out k x hx;have Q0:=hU hq0;have Q1:=hU hq1;have HC1:=hU hc1;have HC2:=hU hc2;have hj1:(k:Int)<(l.length:Int):=by omega
    have hj0:(0:Int)≤(k:Int):=by omega
    clear hc1 hc2 hb hx H1 H2 hq0 hq1;have hq:=neqMsg x;refine sg ?_;intros;refine wp_region_noPanic ?_;refine go0 (S:=fun W=> W.cell? ⟨w.heap.size,0,none⟩=some (.slice (some ⟨g1,o1,none⟩) l.length c1)∧W.cell? ⟨w.heap.size + 1,0,none⟩=some (.slice (some ⟨g2,o2,none⟩) l.length c2)∧(∀ j u,x.cells[j]? =some u→W.cell? ⟨g1,o1 + k * 2 + j,none⟩=some u)∧(∀ j u,x.cells[j]? =some u→W.cell? ⟨g2,o2 + k * 2 + j,none⟩=some u)) [] (⟨aC Q0.out 0,aC Q1.out 0,HC1.out _ HB.out.drew,HC2.out _ HB.out.drew⟩) fun hS=> ?_;refine ts [.p 0,.l 1,.p 2,.p 3] ?_;refine tv 4 (.agg x.cells) (fun W hSW=> aR rfl rfl (cA lI rfl hSW.2.2.1)) ?_;(try simp only [aF])
    refine ts [.p 5,.l 6,.p 7,.p 8] ?_;refine tv 9 (.agg x.cells) (fun W hSW=> aR rfl rfl (cA lI rfl hSW.2.2.2)) ?_;(try simp only [aF])
    refine tp 10 ?_;try simp only [aF]
    refine aZ (by kernel_rfl) (NoPanic.normal ?_) _;clear hS;have Q2:wr.drew.heap[w.heap.size]? =_:=Q0.out;have Q3:wr.drew.heap[w.heap.size + 1]? =_:=Q1.out;have HQ2:=hU Q2;have HQ3:=hU Q3;clear Q2 Q3 x0;refine sg ?_;intros;exact ⟨⟨k + 1,by omega,by go_num,HQ2.out,HQ3.out,HB.out.drew⟩,by simp [intOf];omega⟩
  · clear hq0 hq1 hb;refine sg ?_;intros;go_ret;exact cF rfl HB.out
structure Tiny (k:aI):Prop where
 p:k.p.length≤9223372036854775807
 t:k.t.l.length≤9223372036854775807
 s:k.s.length≤9223372036854775807
 pi:k.aG.length≤9223372036854775807
 h:k.h.length≤9223372036854775807
 im:k.images.length≤9223372036854775807
 ou:k.outs.length≤9223372036854775807
 ins_:k.ins_.length≤9223372036854775807
 bx:k.box.length≤9223372036854775807
 tr:k.trace.length≤9223372036854775807
 se:k.sent.length≤9223372036854775807
 bl:∀ q ∈ k.box,q.l.length≤9223372036854775807
theorem Sl.len {α:Type} {E:TypeId} {sz:Nat} {f:α→Array Value} {W:World} {v:Value} {l:List α} (h:Sl E sz f W v l):l.length≤9223372036854775807:=by
 obtain ⟨a,c,_,h1,h2⟩:=h.shape;omega
theorem aH.tiny {W:World} {y:Lay} {bs:List fY} {k:aI} (h:aH W y bs k):Tiny k:=
 ⟨Sl.len h.p,Sl.len h.t,Sl.len h.s,Sl.len h.pi,Sl.len h.h,Sl.len h.im,Sl.len h.ou,Sl.len h.ins_,by rw [← h.bse,List.length_map];exact Sl.len h.bx,Sl.len h.tr,Sl.len h.se,fun q hq=> by
   rw [← h.bse] at hq;obtain ⟨x,hx,rfl⟩:=List.mem_map.1 hq;exact Sl.len (h.ok x hx)⟩
theorem SameKern (va vb:Value) (k:aI) (w:World) (h1:pV w va k) (h2:pV w vb k):Calls prog 24 #[va,vb] w (aN (.bool true) w):=by
 obtain ⟨ya,sa,rfl,hla⟩:=h1;obtain ⟨yb,sb,rfl,hlb⟩:=h2;have hn:=hla.tiny;obtain ⟨q0,q1⟩:=eF w w.heap.size (.cells (aJ ya k) 41) (.cells (aJ yb k) 41) rfl;have hb0:Below w.heap.size w ((w.alloc (.cells (aJ ya k) 41)).alloc (.cells (aJ yb k) 41)):=bel;obtain ⟨W0,hW0⟩:=exW ((w.alloc (.cells (aJ ya k) 41)).alloc (.cells (aJ yb k) 41));rw [hW0] at q0 q1 hb0;have HLA:=hU (fun W (h:Below w.heap.size w W)=> hla.below h);have HLB:=hU (fun W (h:Below w.heap.size w W)=> hlb.below h);have E0:=hU hb0;have A0:=hU q0;have B0:=hU q1;clear q0 q1 hb0 hla hlb;obtain ⟨ia1,ic1,hia1,_,_⟩:=(HLA.out _ (Below.refl _ _)).im.shape;obtain ⟨ia2,ic2,hia2,_,_⟩:=(HLB.out _ (Below.refl _ _)).im.shape;obtain ⟨xa1,xc1,hxa1,_,_⟩:=(HLA.out _ (Below.refl _ _)).bx.shape;obtain ⟨xa2,xc2,hxa2,_,_⟩:=(HLB.out _ (Below.refl _ _)).bx.shape;have hsa:sa.length=k.box.length:=by rw [← (HLA.out _ (Below.refl _ _)).bse,List.length_map]
 have hsb:sb.length=k.box.length:=by rw [← (HLB.out _ (Below.refl _ _)).bse,List.length_map]
 have HI1:=hU hia1;have HI2:=hU hia2;have HX1:=hU hxa1;have HX2:=hU hxa2;have HSA:=hU hsa;have HSB:=hU hsb;clear hia1 hia2 hxa1 hxa2 hsa hsb;go_in;have fA0:W0.cell? ⟨w.heap.size,0,none⟩=some ya.p:=aC A0.out 0;have fB0:W0.cell? ⟨w.heap.size + 1,0,none⟩=some yb.p:=aC B0.out 0;repeat' (first|(rw [hW0];clear hW0)|go_values|go_skip|go_guarded|refine wg ?_|go_step|go_upon)
 refine (SameProc _ _ k.p _ (HLA.out _ E0.out).p (HLB.out _ E0.out).p hn.p).mono ?_;rintro er W1 ⟨rfl,hb⟩;have A1:=nB hb A0;have B1:=nB hb B0;have E1:=hU (E0.out.trans (hb.mono E0.out.size));clear hb A0 B0 E0 fA0 fB0;dsimp only;have fA1:W1.cell? ⟨w.heap.size,1,none⟩=some ya.t:=aC A1.out 1;have fB1:W1.cell? ⟨w.heap.size + 1,1,none⟩=some yb.t:=aC B1.out 1;have fA2:W1.cell? ⟨w.heap.size,2,none⟩=some (.int .i64 k.t.left):=aC A1.out 2;have fB2:W1.cell? ⟨w.heap.size + 1,2,none⟩=some (.int .i64 k.t.left):=aC B1.out 2;refine sg ?_;intros;refine (SameTurn _ _ k.t _ (HLA.out _ E1.out).t (HLB.out _ E1.out).t hn.t).mono ?_;rintro er W2 ⟨rfl,hb⟩;have A2:=nB hb A1;have B2:=nB hb B1;have E2:=hU (E1.out.trans (hb.mono E1.out.size));clear hb A1 B1 E1 fA1 fB1 fA2 fB2;dsimp only;have fA3:W2.cell? ⟨w.heap.size,3,none⟩=some ya.s:=aC A2.out 3;have fB3:W2.cell? ⟨w.heap.size + 1,3,none⟩=some yb.s:=aC B2.out 3;refine sg ?_;intros;refine (SameAlarm _ _ k.s _ (HLA.out _ E2.out).s (HLB.out _ E2.out).s hn.s).mono ?_;rintro er W3 ⟨rfl,hb⟩;have A3:=nB hb A2;have B3:=nB hb B2;have E3:=hU (E2.out.trans (hb.mono E2.out.size));clear hb A2 B2 E2 fA3 fB3;dsimp only;have fA4:W3.cell? ⟨w.heap.size,4,none⟩=some ya.pi:=aC A3.out 4;have fB4:W3.cell? ⟨w.heap.size + 1,4,none⟩=some yb.pi:=aC B3.out 4;refine sg ?_;intros;refine (SamePipe _ _ k.aG _ (HLA.out _ E3.out).pi (HLB.out _ E3.out).pi hn.pi).mono ?_;rintro er W4 ⟨rfl,hb⟩;have A4:=nB hb A3;have B4:=nB hb B3;have E4:=hU (E3.out.trans (hb.mono E3.out.size));clear hb A3 B3 E3 fA4 fB4;dsimp only;have fA5:W4.cell? ⟨w.heap.size,5,none⟩=some (.int .i64 k.hs):=aC A4.out 5;have fB5:W4.cell? ⟨w.heap.size + 1,5,none⟩=some (.int .i64 k.hs):=aC B4.out 5;have fA6:W4.cell? ⟨w.heap.size,6,none⟩=some ya.h:=aC A4.out 6;have fB6:W4.cell? ⟨w.heap.size + 1,6,none⟩=some yb.h:=aC B4.out 6;refine sg ?_;intros;refine (SameHeap _ _ k.h k.hs _ (HLA.out _ E4.out).h (HLB.out _ E4.out).h hn.h).mono ?_;rintro er W5 ⟨rfl,hb⟩;have A5:=nB hb A4;have B5:=nB hb B4;have E5:=hU (E4.out.trans (hb.mono E4.out.size));clear hb A4 B4 E4 fA5 fB5 fA6 fB6;dsimp only;have fA13:W5.cell? ⟨w.heap.size,13,none⟩=some ya.tr:=aC A5.out 13;have fB13:W5.cell? ⟨w.heap.size + 1,13,none⟩=some yb.tr:=aC B5.out 13;refine sg ?_;intros;refine (SameEv _ _ k.trace _ (HLA.out _ E5.out).tr (HLB.out _ E5.out).tr hn.tr).mono ?_;rintro er W6 ⟨rfl,hb⟩;have A6:=nB hb A5;have B6:=nB hb B5;have E6:=hU (E5.out.trans (hb.mono E5.out.size));clear hb A5 B5 E5 fA13 fB13;dsimp only;have fA14:W6.cell? ⟨w.heap.size,14,none⟩=some ya.se:=aC A6.out 14;have fB14:W6.cell? ⟨w.heap.size + 1,14,none⟩=some yb.se:=aC B6.out 14;refine sg ?_;intros;refine (SameOut _ _ k.sent _ (HLA.out _ E6.out).se (HLB.out _ E6.out).se hn.se).mono ?_;rintro er W7 ⟨rfl,hb⟩;have A7:=nB hb A6;have B7:=nB hb B6;have E7:=hU (E6.out.trans (hb.mono E6.out.size));clear hb A6 B6 E6 fA14 fB14;dsimp only;have fA9:W7.cell? ⟨w.heap.size,9,none⟩=some ya.ou:=aC A7.out 9;have fB9:W7.cell? ⟨w.heap.size + 1,9,none⟩=some yb.ou:=aC B7.out 9;refine sg ?_;intros;refine (SameChan _ _ k.outs _ (HLA.out _ E7.out).ou (HLB.out _ E7.out).ou hn.ou).mono ?_;rintro er W8 ⟨rfl,hb⟩;have A8:=nB hb A7;have B8:=nB hb B7;have E8:=hU (E7.out.trans (hb.mono E7.out.size));clear hb A7 B7 E7 fA9 fB9;dsimp only;have fA10:W8.cell? ⟨w.heap.size,10,none⟩=some ya.ins_:=aC A8.out 10;have fB10:W8.cell? ⟨w.heap.size + 1,10,none⟩=some yb.ins_:=aC B8.out 10;refine sg ?_;intros;refine (SameChan _ _ k.ins_ _ (HLA.out _ E8.out).ins_ (HLB.out _ E8.out).ins_ hn.ins_).mono ?_;rintro er W9 ⟨rfl,hb⟩;have A9:=nB hb A8;have B9:=nB hb B8;have E9:=hU (E8.out.trans (hb.mono E8.out.size));clear hb A8 B8 E8 fA10 fB10;dsimp only;have fA7:W9.cell? ⟨w.heap.size,7,none⟩=some (.int .u64 k.now):=aC A9.out 7;have fB7:W9.cell? ⟨w.heap.size + 1,7,none⟩=some (.int .u64 k.now):=aC B9.out 7;have fA12:W9.cell? ⟨w.heap.size,12,none⟩=some (.string k.cons):=aC A9.out 12;have fB12:W9.cell? ⟨w.heap.size + 1,12,none⟩=some (.string k.cons):=aC B9.out 12;have fA15:W9.cell? ⟨w.heap.size,15,none⟩=some (.int .i64 k.want):=aC A9.out 15;have fB15:W9.cell? ⟨w.heap.size + 1,15,none⟩=some (.int .i64 k.want):=aC B9.out 15;have fA16:W9.cell? ⟨w.heap.size,16,none⟩=some (.int .i64 k.gone):=aC A9.out 16;have fB16:W9.cell? ⟨w.heap.size + 1,16,none⟩=some (.int .i64 k.gone):=aC B9.out 16;have fA8:W9.cell? ⟨w.heap.size,8,none⟩=some (.slice ia1 k.images.length ic1):=(aC A9.out 8).trans (congrArg some HI1.out);have fB8:W9.cell? ⟨w.heap.size + 1,8,none⟩=some (.slice ia2 k.images.length ic2):=(aC B9.out 8).trans (congrArg some HI2.out);have fA11:W9.cell? ⟨w.heap.size,11,none⟩=some (.slice xa1 sa.length xc1):=(aC A9.out 11).trans (congrArg some HX1.out);have fB11:W9.cell? ⟨w.heap.size + 1,11,none⟩=some (.slice xa2 sb.length xc2):=(aC B9.out 11).trans (congrArg some HX2.out);have hss:(sa.length:Int)=(sb.length:Int):=by rw [HSA.out,HSB.out]
 refine sg ?_;intros;clear fA7 fB7 fA12 fB12 fA15 fB15 fA16 fB16 fA8 fB8 fA11 fB11;go_loopw [10] (fun iv wr=> SameR2 w (aJ ya k) (aJ yb k) 41 k.images.length iv wr) (fun iv _=> k.images.length - (intOf iv).toNat)
 case atStart=> exact ⟨0,Nat.zero_le _,rfl,A9.out,B9.out,E9.out⟩
 case round=>
  clear A9 B9 E9;obtain ⟨i,hi,rfl,hq0,hq1,hb⟩:=hrel;have HE:=hU hb;have Q0:=hU hq0;have Q1:=hU hq1;have f8:wr.cell? ⟨w.heap.size,8,none⟩=some (.slice ia1 k.images.length ic1):=(aC Q0.out 8).trans (congrArg some HI1.out);clear hb hq0 hq1;by_cases hil:i<k.images.length
  · obtain ⟨x,hx⟩:∃ x,k.images[i]? =some x:=⟨_,List.getElem?_eq_getElem hil⟩
    have e1:=(HLA.out _ (Below.refl _ _)).im;have e2:=(HLB.out _ (Below.refl _ _)).im;rw [HI1.out] at e1;rw [HI2.out] at e2;obtain ⟨g1,o1,rfl,_,hc1⟩:=e1.elem.2.2.2 i x hx;obtain ⟨g2,o2,rfl,_,hc2⟩:=e2.elem.2.2.2 i x hx;have HC1:=hU hc1;have HC2:=hU hc2;have hj1:(i:Int)<(k.images.length:Int):=by omega
    have hj0:(0:Int)≤(i:Int):=by omega
    clear hc1 hc2 hx e1 e2;refine sg ?_;intros;refine wp_region_noPanic ?_;refine go0 (S:=fun W=> W.cell? ⟨w.heap.size,8,none⟩=some (.slice (some ⟨g1,o1,none⟩) k.images.length ic1)∧W.cell? ⟨w.heap.size + 1,8,none⟩=some (.slice (some ⟨g2,o2,none⟩) k.images.length ic2)∧W.cell? ⟨g1,o1 + i,none⟩=some (.string x)∧W.cell? ⟨g2,o2 + i,none⟩=some (.string x)) [] (⟨(aC Q0.out 8).trans (congrArg some HI1.out),(aC Q1.out 8).trans (congrArg some HI2.out),by simpa using HC1.out _ HE.out.drew 0 (.string x) rfl,by simpa using HC2.out _ HE.out.drew 0 (.string x) rfl⟩) fun hS=> ?_;refine ts [.p 0,.l 1,.p 2,.p 3,.l 4,.p 5,.l 6,.p 7,.p 8,.l 9,.p 10] ?_;refine aZ (by kernel_rfl) (NoPanic.normal ?_) _;clear hS f8;have Q2:wr.drew.heap[w.heap.size]? =_:=Q0.out;have Q3:wr.drew.heap[w.heap.size + 1]? =_:=Q1.out;have HQ2:=hU Q2;have HQ3:=hU Q3;clear Q2 Q3;refine sg ?_;intros;exact ⟨⟨i + 1,by omega,by go_num,HQ2.out,HQ3.out,HE.out.drew⟩,by simp [intOf];omega⟩
  · refine sg ?_;intros;clear f8;obtain ⟨wo,rfl⟩:∃ wo:World,wo=wr:=⟨wr,rfl⟩
    go_loopw [11] (fun iv wr=> SameR2 w (aJ ya k) (aJ yb k) 41 k.box.length iv wr) (fun iv _=> k.box.length - (intOf iv).toNat)
    case atStart=> exact ⟨0,Nat.zero_le _,rfl,Q0.out,Q1.out,HE.out⟩
    case round=>
     clear Q0 Q1 HE;obtain ⟨j,hj,rfl,hq0,hq1,hb⟩:=hrel;have HE:=hU hb;have Q0:=hU hq0;have Q1:=hU hq1;have f11:wr.cell? ⟨w.heap.size,11,none⟩=some (.slice xa1 sa.length xc1):=(aC Q0.out 11).trans (congrArg some HX1.out);clear hb hq0 hq1;by_cases hjl:j<k.box.length
     · have hj1:(j:Int)<(sa.length:Int):=by rw [HSA.out];omega
       have hj2:(j:Int)<(sb.length:Int):=by rw [HSB.out];omega
       have hj0:(0:Int)≤(j:Int):=by omega
       obtain ⟨⟨a1,c1,z1⟩,hx1⟩:∃ x,sa[j]? =some x:=⟨_,List.getElem?_eq_getElem (by omega)⟩
       obtain ⟨⟨a2,c2,z2⟩,hx2⟩:∃ x,sb[j]? =some x:=⟨_,List.getElem?_eq_getElem (by omega)⟩
       have hz1:k.box[j]? =some z1:=by rw [← (HLA.out _ (Below.refl _ _)).bse,List.getElem?_map,hx1];rfl
       have hz2:k.box[j]? =some z2:=by rw [← (HLB.out _ (Below.refl _ _)).bse,List.getElem?_map,hx2];rfl
       obtain rfl:z1=z2:=by rw [hz1] at hz2;exact Option.some.inj hz2
       have hbl:=hn.bl z1 (List.mem_of_getElem? hz1);obtain ⟨zl,zt⟩:=z1;have OK1:=hU (fun W (h:Below w.heap.size w W)=> (HLA.out W h).ok _ (List.mem_of_getElem? hx1));have OK2:=hU (fun W (h:Below w.heap.size w W)=> (HLB.out W h).ok _ (List.mem_of_getElem? hx2));have e1:=(HLA.out _ (Below.refl _ _)).bx;have e2:=(HLB.out _ (Below.refl _ _)).bx;rw [HX1.out] at e1;rw [HX2.out] at e2;obtain ⟨g1,o1,rfl,_,hc1⟩:=e1.elem.2.2.2 j _ hx1;obtain ⟨g2,o2,rfl,_,hc2⟩:=e2.elem.2.2.2 j _ hx2;have HC1:=hU hc1;have HC2:=hU hc2;clear hc1 hc2 hx1 hx2 hz1 hz2 e1 e2;refine sg ?_;intros;refine wp_region_noPanic ?_;refine go0 (S:=fun W=> W.cell? ⟨w.heap.size,11,none⟩=some (.slice (some ⟨g1,o1,none⟩) sa.length xc1)∧W.cell? ⟨w.heap.size + 1,11,none⟩=some (.slice (some ⟨g2,o2,none⟩) sb.length xc2)∧(∀ i u,(#[.slice a1 zl.length c1,.int .i64 zt]:Array Value)[i]? =some u→W.cell? ⟨g1,o1 + j * 2 + i,none⟩=some u)∧(∀ i u,(#[.slice a2 zl.length c2,.int .i64 zt]:Array Value)[i]? =some u→W.cell? ⟨g2,o2 + j * 2 + i,none⟩=some u)) [] (⟨(aC Q0.out 11).trans (congrArg some HX1.out),(aC Q1.out 11).trans (congrArg some HX2.out),HC1.out _ HE.out.drew,HC2.out _ HE.out.drew⟩) fun hS=> ?_;refine ts [.p 0,.l 1,.p 2,.p 3] ?_;refine tv 4 (.agg #[.slice a1 zl.length c1,.int .i64 zt]) (fun W hSW=> aR rfl rfl (cA lB rfl hSW.2.2.1)) ?_;(try simp only [aF])
       refine ts [.p 5,.l 6,.p 7,.p 8] ?_;refine tv 9 (.agg #[.slice a2 zl.length c2,.int .i64 zt]) (fun W hSW=> aR rfl rfl (cA lB rfl hSW.2.2.2)) ?_;(try simp only [aF])
       refine ro 10 fun K hK=> ?_;refine want rfl ?_;go_simp;refine (SameBox a1 a2 c1 c2 zl zt _ (OK1.out _ HE.out.drew) (OK2.out _ HE.out.drew) hbl).mono ?_;rintro er W2 ⟨rfl,hb⟩;have HE2:=hU (HE.out.drew.trans (hb.mono HE.out.drew.size));have Q2:=nB hb (show Hid (wr.drew.heap[w.heap.size]? =_) from hU Q0.out);have Q3:=nB hb (show Hid (wr.drew.heap[w.heap.size + 1]? =_) from hU Q1.out);clear hb;dsimp only;try clear hS
       refine nx hK (⟨(aC Q2.out 11).trans (congrArg some HX1.out),(aC Q3.out 11).trans (congrArg some HX2.out),HC1.out _ HE2.out,HC2.out _ HE2.out⟩) fun hS=> ?_;clear hK K;(try simp only [aF])
       refine tp 11 ?_;try simp only [aF]
       refine aZ (by kernel_rfl) (NoPanic.normal ?_) _;clear hS f11;refine sg ?_;intros;exact ⟨⟨j + 1,by omega,by go_num,Q2.out,Q3.out,HE2.out⟩,by simp [intOf];omega⟩
     · have hjs:¬ (j:Int)<(sa.length:Int):=by rw [HSA.out];omega
       refine sg ?_;intros;go_ret;exact cF rfl HE.out
