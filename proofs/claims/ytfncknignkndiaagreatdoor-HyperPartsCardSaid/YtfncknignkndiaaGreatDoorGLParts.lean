/- What the kernel's comparisons want of arrays and rows. Conditions: as told. -/
import Derived.Laws.StructEq
import Derived.Test.YtfncknignkndiaaGreatDoorGHs
set_option linter.unusedVariables false
set_option maxRecDepth 100000
set_option maxHeartbeats 8000000
set_option linter.unusedSimpArgs false
namespace Go.Proofs.YtfncknignkndiaaGreatDoor
open Go
section
variable {P:Program} (w:World)
theorem run_forIn_range (d:Nat) (e:TypeId) (n:Nat) (xs ys:Array Value):∀ (k i:Nat) (w:World),
 ((do
   let r ← forIn (List.range' i k) ((none,()):Option Bool × Unit) (fun j _=> do
    let a ← part e xs (j * n)
    let b ← part e ys (j * n)
    let r ← Op.equalIn d e a b
    if (!r)=true then pure (ForInStep.done (some false,())) else pure (ForInStep.yield (none,())))
   match r.fst with
   |some a=> pure a
   |none=> pure true):Sem Bool).run P w=(qOw d e n xs ys i k).run P w:=by
 intro k;induction k with
 |zero=> intro i w;simp [qOw]
 |succ k ih=>
  intro i w;simp only [List.range'_succ,List.forIn_cons,qOw,Sem.run_bind];generalize (part e xs (i * n)).run P w=r1;cases r1 with
  |ok a w1=>
   simp only [Result.andThen_ok];generalize (part e ys (i * n)).run P w1=r2;cases r2 with
   |ok b w2=>
    simp only [Result.andThen_ok];generalize (Op.equalIn d e a b).run P w2=r3;cases r3 with
    |ok r w3=>
     cases r
     · simp
     · have:=ih (i + 1) w3
       simp only [Sem.run_bind] at this;simpa using this
    |halt x w3=> simp [Result.andThen]
   |halt x w2=> simp [Result.andThen]
  |halt x w1=> simp [Result.andThen]
theorem run_equalIn_array (d:Nat) (t:TypeId) (xs ys:Array Value) (i:TypeInfo) (ht:P.underlying t=some (.array (qZe P t).1 (qZe P t).2)) (hn:P.info? (qZe P t).2=some i):
 (Op.equalIn (d + 1) t (.agg xs) (.agg ys)).run P w=(qOw d (qZe P t).2 i.size xs ys 0 (qZe P t).1).run P w:=by
 rw [← run_forIn_range];simp [Op.equalIn,run_underlying ht,sizeOf,typeInfo,hn,Std.Legacy.Range.forIn_eq_forIn_range',Std.Legacy.Range.size];refine congrArg (fun f=> Result.andThen _ f) ?_;funext a w'
 rcases a with ⟨_|_,_⟩ <;> rfl
end
theorem info_word:(Tryz.prog.info? 109).map (fun i=> i.size)=some 1:=by kernel_rfl
theorem arr_regs (d:Nat) (W:World) (xs ys:Array Value):(Op.equalIn (d + 1) 112 (.agg xs) (.agg ys)).run Tryz.prog W=(qOw d 109 1 xs ys 0 8).run Tryz.prog W:=by
 obtain ⟨i,hi,hs⟩:=Option.map_eq_some_iff.1 info_word;have e:qZe Tryz.prog 112=(8,109):=by unfold qZe;rw [Tryz.underlying112]
 have h:=run_equalIn_array (P:=Tryz.prog) W d 112 xs ys i (by rw [e];exact Tryz.underlying112) (by rw [e];exact hi);rw [e,hs] at h;exact h
open Go.RowKit KR
namespace Kn
theorem aggEv:Agg Tryz.prog 127 4:=gD Tryz.underlying127 rfl (by kernel_rfl)
theorem aggOut:Agg Tryz.prog 194 2:=gD Tryz.underlying194 rfl (by kernel_rfl)
theorem oneSChan:One Tryz.prog 36:=gU Tryz.underlying36 rfl (by kernel_rfl)
theorem oneSStr:One Tryz.prog 22:=gU Tryz.underlying22 rfl (by kernel_rfl)
end Kn
end Go.Proofs.YtfncknignkndiaaGreatDoor
namespace Go.Proofs.YtfncknignkndiaaGreatDoor
open Go.RowKit KR RegT3
namespace Kn
def SameR (w:World) (n:Nat) (iv:Value) (wr:World):Prop:=∃ k:Nat,k≤n∧iv=.int .i64 k∧Below w.heap.size w wr
theorem info_end:(Tryz.prog.info? 116).map (fun i=> i.size)=some 2:=by kernel_rfl
theorem arr_fds (d:Nat) (W:World) (xs ys:Array Value):(Op.equalIn (d + 1) 117 (.agg xs) (.agg ys)).run Tryz.prog W=(qOw d 116 2 xs ys 0 4).run Tryz.prog W:=by
 obtain ⟨i,hi,hs⟩:=Option.map_eq_some_iff.1 info_end;have e:qZe Tryz.prog 117=(4,116):=by unfold qZe;rw [Tryz.underlying117]
 have h:=run_equalIn_array (P:=Tryz.prog) W d 117 xs ys i (by rw [e];exact Tryz.underlying117) (by rw [e];exact hi);rw [e,hs] at h;exact h
theorem neqProc (x:Proc) (W:World):(binOp .neq 121 (.agg (Proc.cells x)) (.agg (Proc.cells x))).run Tryz.prog W=.ok (.bool false) W:=by
 have hA:=arr_regs;have hF:=arr_fds;unfold Proc.cells;go_simp
theorem neqAlarm (x:Alarm) (W:World):(binOp .neq 48 (.agg (Alarm.cells x)) (.agg (Alarm.cells x))).run Tryz.prog W=.ok (.bool false) W:=by
 unfold Alarm.cells;go_simp
theorem neqPipe (x:cG) (W:World):(binOp .neq 191 (.agg (cG.cells x)) (.agg (cG.cells x))).run Tryz.prog W=.ok (.bool false) W:=by
 unfold cG.cells;go_simp
theorem neqSpan (x:Span) (W:World):(binOp .neq 208 (.agg (Span.cells x)) (.agg (Span.cells x))).run Tryz.prog W=.ok (.bool false) W:=by
 unfold Span.cells;go_simp
theorem neqEv (x:Ev) (W:World):(binOp .neq 127 (.agg (Ev.cells x)) (.agg (Ev.cells x))).run Tryz.prog W=.ok (.bool false) W:=by
 unfold Ev.cells;go_simp
theorem neqOut (x:Out) (W:World):(binOp .neq 194 (.agg (Out.cells x)) (.agg (Out.cells x))).run Tryz.prog W=.ok (.bool false) W:=by
 unfold Out.cells;go_simp
theorem neqChan (x:cS) (W:World):(binOp .neq 102 (.agg (cS.cells x)) (.agg (cS.cells x))).run Tryz.prog W=.ok (.bool false) W:=by
 unfold cS.cells;go_simp
theorem neqMsg (x:Msg) (W:World):(binOp .neq 196 (.agg (Msg.cells x)) (.agg (Msg.cells x))).run Tryz.prog W=.ok (.bool false) W:=by
 unfold Msg.cells;go_simp
abbrev El (E:TypeId) (sz:Nat) (w:World) (a1 a2:Option Addr) (n:Nat):Prop:=∀ k,k<n→∃ g1 o1 g2 o2,∃ cs:Array Value,∃ S:World→Prop,a1=some ⟨g1,o1,none⟩∧a2=some ⟨g2,o2,none⟩∧(∀ W,Below w.heap.size w W→S W)∧(∀ W,S W→(Instr.loadAt E (.pointer (some ⟨g1,o1 + k * sz,none⟩))).run Tryz.prog W=.ok (.agg cs) W)∧
 (∀ W,S W→(Instr.loadAt E (.pointer (some ⟨g2,o2 + k * sz,none⟩))).run Tryz.prog W=.ok (.agg cs) W)∧∀ W:World,(binOp .neq E (.agg cs) (.agg cs)).run Tryz.prog W=.ok (.bool false) W
theorem elem2 {α:Type} {E:TypeId} {sz:Nat} {f:α→Array Value} {w:World} {a1 a2:Option Addr} {n c1 c2:Nat} {l:List α} (ha:Agg Tryz.prog E sz) (hf:∀ x,(f x).size=sz) (hq:∀ (x:α) (W:World),(binOp .neq E (.agg (f x)) (.agg (f x))).run Tryz.prog W=.ok (.bool false) W)
 (h1:Sl E sz f w (.slice a1 n c1) l) (h2:Sl E sz f w (.slice a2 n c2) l):El E sz w a1 a2 n:=fun k hk=> by
 obtain ⟨hn,_,_,e1⟩:=h1.elem;obtain ⟨x,hx⟩:∃ x,l[k]? =some x:=⟨_,List.getElem?_eq_getElem (by omega)⟩
 obtain ⟨g1,o1,he1,_,q1⟩:=e1 k x hx;obtain ⟨g2,o2,he2,_,q2⟩:=h2.elem.2.2.2 k x hx;exact ⟨g1,o1,g2,o2,f x,fun W=> (∀ j u,(f x)[j]? =some u→W.cell? ⟨g1,o1 + k * sz + j,none⟩=some u)∧∀ j u,(f x)[j]? =some u→W.cell? ⟨g2,o2 + k * sz + j,none⟩=some u,he1,he2,fun W h=> ⟨q1 W h,q2 W h⟩,fun W h=> cA ha (hf x) h.1,fun W h=> cA ha (hf x) h.2,hq x⟩
abbrev EqSt (F:FuncId) (E:TypeId) (sz:Nat):Prop:=∀ (w:World) (a1 a2:Option Addr) (n c1 c2:Nat),n≤9223372036854775807→El E sz w a1 a2 n→Calls Tryz.prog F #[.slice a1 n c1,.slice a2 n c2] w (aN (.bool true) w)
theorem eq_of {α:Type} {F:FuncId} {E:TypeId} {sz:Nat} {f:α→Array Value} {w:World} {u v:Value} {l:List α} (h:EqSt F E sz) (ha:Agg Tryz.prog E sz) (hf:∀ x,(f x).size=sz) (hq:∀ (x:α) (W:World),(binOp .neq E (.agg (f x)) (.agg (f x))).run Tryz.prog W=.ok (.bool false) W)
 (h1:Sl E sz f w u l) (h2:Sl E sz f w v l):Calls Tryz.prog F #[u,v] w (aN (.bool true) w):=by
 obtain ⟨a1,c1,rfl,hm1,hm2⟩:=h1.shape;obtain ⟨a2,c2,rfl,_,_⟩:=h2.shape;exact h w a1 a2 _ c1 c2 (Nat.le_trans hm1 hm2) (elem2 ha hf hq h1 h2)
theorem SameEv (u v:Value) (l:List Ev) (w:World) (h1:Sl 127 4 Ev.cells w u l) (h2:Sl 127 4 Ev.cells w v l) (hn:l.length≤9223372036854775807):Calls Tryz.prog 58 #[u,v] w (aN (.bool true) w):=by
 obtain ⟨a1,c1,rfl,_,_⟩:=h1.shape;obtain ⟨a2,c2,rfl,_,_⟩:=h2.shape;have H1:=hU h1.elem.2.2.2;have H2:=hU h2.elem.2.2.2;clear h1 h2;go_in;refine sg ?_;intros;go_loopw [5] (fun iv wr=> SameR w l.length iv wr) (fun iv _=> l.length - (intOf iv).toNat)
 case atStart=> exact ⟨0,Nat.zero_le _,rfl,Below.refl _ _⟩
 case round=>
  obtain ⟨k,hk,rfl,hb⟩:=hrel;by_cases hkl:k<l.length
  · obtain ⟨x,hx⟩:∃ x,l[k]? =some x:=⟨_,List.getElem?_eq_getElem hkl⟩
    obtain ⟨g1,o1,rfl,_,hc1⟩:=H1.out k x hx;obtain ⟨g2,o2,rfl,_,hc2⟩:=H2.out k x hx;have HC1:=hU hc1;have HC2:=hU hc2;have HB:=hU hb;have hj1:(k:Int)<(l.length:Int):=by omega
    have hj0:(0:Int)≤(k:Int):=by omega
    clear hc1 hc2 hb hx H1 H2;have hq:=neqEv x;refine sg ?_;intros;refine wp_region_noPanic ?_;refine go0 (S:=fun W=> (∀ j u,(Ev.cells x)[j]? =some u→W.cell? ⟨g1,o1 + k * 4 + j,none⟩=some u)∧(∀ j u,(Ev.cells x)[j]? =some u→W.cell? ⟨g2,o2 + k * 4 + j,none⟩=some u)) [] (⟨HC1.out _ HB.out.drew,HC2.out _ HB.out.drew⟩) fun hS=> ?_;refine ts [.p 0,.p 1,.p 2] ?_;refine tv 3 (.agg (Ev.cells x)) (fun W hSW=> aR rfl rfl (cA aggEv rfl hSW.1)) ?_;(try simp only [aF])
    refine ts [.p 4,.p 5,.p 6] ?_;refine tv 7 (.agg (Ev.cells x)) (fun W hSW=> aR rfl rfl (cA aggEv rfl hSW.2)) ?_;(try simp only [aF])
    refine tp 8 ?_;try simp only [aF]
    refine aZ (by kernel_rfl) (NoPanic.normal ?_) _;clear hS;refine sg ?_;intros;exact ⟨⟨k + 1,by omega,by go_num,HB.out.drew⟩,by simp [intOf];omega⟩
  · have HB:=hU hb;clear hb;refine sg ?_;intros;go_ret;exact cF rfl HB.out
theorem allSame:EqSt 53 121 26∧EqSt 55 48 2∧EqSt 56 191 3∧EqSt 106 208 3∧EqSt 59 194 2∧EqSt 60 102 5:=by
 refine ⟨?_,?_,?_,?_,?_,?_⟩
 all_goals
  intro w a1 a2 n c1 c2 hn he;have HE:=hU he;clear he;go_in;refine sg ?_;intros;go_loopw [5] (fun iv wr=> SameR w n iv wr) (fun iv _=> n - (intOf iv).toNat)
  case atStart=> exact ⟨0,Nat.zero_le _,rfl,Below.refl _ _⟩
  case round=>
   obtain ⟨k,hk,rfl,hb⟩:=hrel;have HB:=hU hb;clear hb;by_cases hkl:k<n
   · obtain ⟨g1,o1,g2,o2,cs,S,rfl,rfl,hS,l1,l2,hq⟩:=HE.out k hkl;have HS:=hU hS;have H1:=hU l1;have H2:=hU l2;have hj1:(k:Int)<(n:Int):=by omega
     have hj0:(0:Int)≤(k:Int):=by omega
     clear hS l1 l2;refine sg ?_;intros;refine wp_region_noPanic ?_;refine go0 (S:=S) [] (HS.out _ HB.out.drew) fun hS=> ?_;refine ts [.p 0,.p 1,.p 2] ?_;refine tv 3 (.agg cs) (fun W hSW=> aR rfl rfl (H1.out W hSW)) ?_;(try simp only [aF])
     refine ts [.p 4,.p 5,.p 6] ?_;refine tv 7 (.agg cs) (fun W hSW=> aR rfl rfl (H2.out W hSW)) ?_;(try simp only [aF])
     refine tp 8 ?_;try simp only [aF]
     refine aZ (by kernel_rfl) (NoPanic.normal ?_) _;clear hS;refine sg ?_;intros;exact ⟨⟨k + 1,by omega,by go_num,HB.out.drew⟩,by simp [intOf];omega⟩
   · refine sg ?_;intros;go_ret;exact cF rfl HB.out
theorem SameProc (u v:Value) (l:List Proc) (w:World) (h1:Sl 121 26 Proc.cells w u l) (h2:Sl 121 26 Proc.cells w v l) (hn:l.length≤9223372036854775807):Calls Tryz.prog 53 #[u,v] w (aN (.bool true) w):=eq_of allSame.1 aL eE neqProc h1 h2
theorem SameAlarm (u v:Value) (l:List Alarm) (w:World) (h1:Sl 48 2 Alarm.cells w u l) (h2:Sl 48 2 Alarm.cells w v l) (hn:l.length≤9223372036854775807):Calls Tryz.prog 55 #[u,v] w (aN (.bool true) w):=eq_of allSame.2.1 jH pR neqAlarm h1 h2
theorem SamePipe (u v:Value) (l:List cG) (w:World) (h1:Sl 191 3 cG.cells w u l) (h2:Sl 191 3 cG.cells w v l) (hn:l.length≤9223372036854775807):Calls Tryz.prog 56 #[u,v] w (aN (.bool true) w):=eq_of allSame.2.2.1 iD fB neqPipe h1 h2
theorem SameSpan (u v:Value) (l:List Span) (w:World) (h1:Sl 208 3 Span.cells w u l) (h2:Sl 208 3 Span.cells w v l) (hn:l.length≤9223372036854775807):Calls Tryz.prog 106 #[u,v] w (aN (.bool true) w):=eq_of allSame.2.2.2.1 qDs lP neqSpan h1 h2
theorem SameOut (u v:Value) (l:List Out) (w:World) (h1:Sl 194 2 Out.cells w u l) (h2:Sl 194 2 Out.cells w v l) (hn:l.length≤9223372036854775807):Calls Tryz.prog 59 #[u,v] w (aN (.bool true) w):=eq_of allSame.2.2.2.2.1 aggOut qUp neqOut h1 h2
theorem SameChan (u v:Value) (l:List cS) (w:World) (h1:Sl 102 5 cS.cells w u l) (h2:Sl 102 5 cS.cells w v l) (hn:l.length≤9223372036854775807):Calls Tryz.prog 60 #[u,v] w (aN (.bool true) w):=eq_of allSame.2.2.2.2.2 tR iO neqChan h1 h2
theorem SameInt (u v:Value) (l:List Int) (w:World) (h1:Sl 3 1 dC w u l) (h2:Sl 3 1 dC w v l) (hn:l.length≤9223372036854775807):Calls Tryz.prog 105 #[u,v] w (aN (.bool true) w):=by
 obtain ⟨a1,c1,rfl,_,_⟩:=h1.shape;obtain ⟨a2,c2,rfl,_,_⟩:=h2.shape;have H1:=hU h1.elem.2.2.2;have H2:=hU h2.elem.2.2.2;clear h1 h2;go_in;refine sg ?_;intros;go_loopw [5] (fun iv wr=> SameR w l.length iv wr) (fun iv _=> l.length - (intOf iv).toNat)
 case atStart=> exact ⟨0,Nat.zero_le _,rfl,Below.refl _ _⟩
 case round=>
  obtain ⟨k,hk,rfl,hb⟩:=hrel;by_cases hkl:k<l.length
  · obtain ⟨x,hx⟩:∃ x,l[k]? =some x:=⟨_,List.getElem?_eq_getElem hkl⟩
    obtain ⟨g1,o1,rfl,_,hc1⟩:=H1.out k x hx;obtain ⟨g2,o2,rfl,_,hc2⟩:=H2.out k x hx;have HC1:=hU hc1;have HC2:=hU hc2;have HB:=hU hb;have hj1:(k:Int)<(l.length:Int):=by omega
    have hj0:(0:Int)≤(k:Int):=by omega
    clear hc1 hc2 hb hx H1 H2;refine sg ?_;intros;refine wp_region_noPanic ?_;refine go0 (S:=fun W=> (W.cell? ⟨g1,o1 + k,none⟩=some (.int .i64 x))∧(W.cell? ⟨g2,o2 + k,none⟩=some (.int .i64 x))) [] (⟨by simpa using HC1.out _ HB.out.drew 0 (.int .i64 x) rfl,by simpa using HC2.out _ HB.out.drew 0 (.int .i64 x) rfl⟩) fun hS=> ?_;refine ts [.p 0,.p 1,.p 2,.l 3,.p 4,.p 5,.p 6,.l 7,.p 8] ?_;refine aZ (by kernel_rfl) (NoPanic.normal ?_) _;clear hS;refine sg ?_;intros;exact ⟨⟨k + 1,by omega,by go_num,HB.out.drew⟩,by simp [intOf];omega⟩
  · have HB:=hU hb;clear hb;refine sg ?_;intros;go_ret;exact cF rfl HB.out
theorem SameTurn (u v:Value) (t:jM) (w:World) (h1:SlI w u t.l) (h2:SlI w v t.l) (hn:t.l.length≤9223372036854775807):Calls Tryz.prog 54 #[.agg #[u,.int .i64 t.left],.agg #[v,.int .i64 t.left]] w (aN (.bool true) w):=by
 obtain ⟨q0,q1⟩:=eF w w.heap.size (.cells #[u,.int .i64 t.left] 29) (.cells #[v,.int .i64 t.left] 29) rfl;have hb0:Below w.heap.size w ((w.alloc (.cells #[u,.int .i64 t.left] 29)).alloc (.cells #[v,.int .i64 t.left] 29)):=bel;obtain ⟨W0,hW0⟩:=exW ((w.alloc (.cells #[u,.int .i64 t.left] 29)).alloc (.cells #[v,.int .i64 t.left] 29));rw [hW0] at q0 q1 hb0;have HC:=hU (SameInt u v t.l W0 (h1.below hb0) (h2.below hb0) hn);have HB:=hU hb0;have H0:=hU q0;have H1:=hU q1;have a0:=aC q0 0;have b0:=aC q1 0;clear q0 q1 hb0 h1 h2;go_in;repeat' (first|(rw [hW0];clear hW0)|go_values|go_skip|go_guarded|refine wg ?_|go_step|go_upon)
 refine HC.out.mono ?_;rintro er W1 ⟨rfl,hb⟩;have a1:=aC (nB hb H0).out 1;have b1:=aC (nB hb H1).out 1;have HB1:=hU (HB.out.trans (hb.mono HB.out.size));clear a0 b0 hb;dsimp only;refine sg ?_;intros;go_ret;exact cF (by simp) HB1.out
theorem SameHeap (u v:Value) (l:List Span) (n:Int) (w:World) (h1:SlS w u l) (h2:SlS w v l) (hn:l.length≤9223372036854775807):Calls Tryz.prog 57 #[.agg #[.int .i64 n,u],.agg #[.int .i64 n,v]] w (aN (.bool true) w):=by
 obtain ⟨q0,q1⟩:=eF w w.heap.size (.cells #[.int .i64 n,u] 34) (.cells #[.int .i64 n,v] 34) rfl;have hb0:Below w.heap.size w ((w.alloc (.cells #[.int .i64 n,u] 34)).alloc (.cells #[.int .i64 n,v] 34)):=bel;obtain ⟨W0,hW0⟩:=exW ((w.alloc (.cells #[.int .i64 n,u] 34)).alloc (.cells #[.int .i64 n,v] 34));rw [hW0] at q0 q1 hb0;have HC:=hU (SameSpan u v l W0 (h1.below hb0) (h2.below hb0) hn);have HB:=hU hb0;have H0:=hU q0;have H1:=hU q1;have a0:=aC q0 1;have b0:=aC q1 1;clear q0 q1 hb0 h1 h2;go_in;repeat' (first|(rw [hW0];clear hW0)|go_values|go_skip|go_guarded|refine wg ?_|go_step|go_upon)
 refine HC.out.mono ?_;rintro er W1 ⟨rfl,hb⟩;have a1:=aC (nB hb H0).out 0;have b1:=aC (nB hb H1).out 0;have HB1:=hU (HB.out.trans (hb.mono HB.out.size));clear a0 b0 hb;dsimp only;refine sg ?_;intros;go_ret;exact cF (by simp) HB1.out
def SameR2 (w:World) (ca cb:Array Value) (T:TypeId) (n:Nat) (iv:Value) (wr:World):Prop:=∃ k:Nat,k≤n∧iv=.int .i64 k∧wr.heap[w.heap.size]? =some (.cells ca T (0,0))∧wr.heap[w.heap.size + 1]? =some (.cells cb T (0,0))∧Below w.heap.size w wr
theorem SameBox (a1 a2:Option Addr) (c1 c2:Nat) (l:List Msg) (lost:Int) (w:World) (h1:lG w ⟨a1,c1,⟨l,lost⟩⟩) (h2:lG w ⟨a2,c2,⟨l,lost⟩⟩) (hn:l.length≤9223372036854775807):Calls Tryz.prog 61 #[.agg #[.slice a1 l.length c1,.int .i64 lost],.agg #[.slice a2 l.length c2,.int .i64 lost]] w (aN (.bool true) w):=by
 unfold lG at h1 h2;dsimp only at h1 h2;have H1:=hU h1.elem.2.2.2;have H2:=hU h2.elem.2.2.2;clear h1 h2;obtain ⟨q0,q1⟩:=eF w w.heap.size (.cells #[.slice a1 l.length c1,.int .i64 lost] 145) (.cells #[.slice a2 l.length c2,.int .i64 lost] 145) rfl;have hb0:Below w.heap.size w ((w.alloc (.cells #[.slice a1 l.length c1,.int .i64 lost] 145)).alloc (.cells #[.slice a2 l.length c2,.int .i64 lost] 145)):=bel;obtain ⟨W0,hW0⟩:=exW ((w.alloc (.cells #[.slice a1 l.length c1,.int .i64 lost] 145)).alloc (.cells #[.slice a2 l.length c2,.int .i64 lost] 145));rw [hW0] at q0 q1 hb0;have x0:=aC q0 0;have y0:=aC q1 0;have x1:=aC q0 1;have y1:=aC q1 1;have HB:=hU hb0;have Q0:=hU q0;have Q1:=hU q1;clear q0 q1 hb0;go_in;repeat' (first|(rw [hW0];clear hW0)|go_values|go_skip|go_guarded|refine wg ?_|go_step|go_upon)
 go_loopw [5] (fun iv wr=> SameR2 w #[.slice a1 l.length c1,.int .i64 lost] #[.slice a2 l.length c2,.int .i64 lost] 145 l.length iv wr) (fun iv _=> l.length - (intOf iv).toNat)
 case atStart=> exact ⟨0,Nat.zero_le _,rfl,Q0.out,Q1.out,HB.out⟩
 case round=>
  clear x0 y0 x1 y1 HB Q0 Q1;obtain ⟨k,hk,rfl,hq0,hq1,hb⟩:=hrel;have HB:=hU hb;have x0:=aC hq0 0;by_cases hkl:k<l.length
  · obtain ⟨x,hx⟩:∃ x,l[k]? =some x:=⟨_,List.getElem?_eq_getElem hkl⟩
    obtain ⟨g1,o1,rfl,_,hc1⟩:=H1.out k x hx;obtain ⟨g2,o2,rfl,_,hc2⟩:=H2.out k x hx;have Q0:=hU hq0;have Q1:=hU hq1;have HC1:=hU hc1;have HC2:=hU hc2;have hj1:(k:Int)<(l.length:Int):=by omega
    have hj0:(0:Int)≤(k:Int):=by omega
    clear hc1 hc2 hb hx H1 H2 hq0 hq1;have hq:=neqMsg x;refine sg ?_;intros;refine wp_region_noPanic ?_;refine go0 (S:=fun W=> W.cell? ⟨w.heap.size,0,none⟩=some (.slice (some ⟨g1,o1,none⟩) l.length c1)∧W.cell? ⟨w.heap.size + 1,0,none⟩=some (.slice (some ⟨g2,o2,none⟩) l.length c2)∧(∀ j u,x.cells[j]? =some u→W.cell? ⟨g1,o1 + k * 2 + j,none⟩=some u)∧(∀ j u,x.cells[j]? =some u→W.cell? ⟨g2,o2 + k * 2 + j,none⟩=some u)) [] (⟨aC Q0.out 0,aC Q1.out 0,HC1.out _ HB.out.drew,HC2.out _ HB.out.drew⟩) fun hS=> ?_;refine ts [.p 0,.l 1,.p 2,.p 3] ?_;refine tv 4 (.agg x.cells) (fun W hSW=> aR rfl rfl (cA lI rfl hSW.2.2.1)) ?_;(try simp only [aF])
    refine ts [.p 5,.l 6,.p 7,.p 8] ?_;refine tv 9 (.agg x.cells) (fun W hSW=> aR rfl rfl (cA lI rfl hSW.2.2.2)) ?_;(try simp only [aF])
    refine tp 10 ?_;try simp only [aF]
    refine aZ (by kernel_rfl) (NoPanic.normal ?_) _;clear hS;have Q2:wr.drew.heap[w.heap.size]? =_:=Q0.out;have Q3:wr.drew.heap[w.heap.size + 1]? =_:=Q1.out;have HQ2:=hU Q2;have HQ3:=hU Q3;clear Q2 Q3 x0;refine sg ?_;intros;exact ⟨⟨k + 1,by omega,by go_num,HQ2.out,HQ3.out,HB.out.drew⟩,by simp [intOf];omega⟩
  · clear hq0 hq1 hb;refine sg ?_;intros;go_ret;exact cF rfl HB.out
structure Tiny (k:aI):Prop where
 p:k.p.length≤9223372036854775807
 t:k.t.l.length≤9223372036854775807
 s:k.s.length≤9223372036854775807
 pi:k.aG.length≤9223372036854775807
 h:k.h.length≤9223372036854775807
 im:k.images.length≤9223372036854775807
 ou:k.outs.length≤9223372036854775807
 ins_:k.ins_.length≤9223372036854775807
 bx:k.box.length≤9223372036854775807
 tr:k.trace.length≤9223372036854775807
 se:k.sent.length≤9223372036854775807
 bl:∀ q ∈ k.box,q.l.length≤9223372036854775807
theorem Sl.len {α:Type} {E:TypeId} {sz:Nat} {f:α→Array Value} {W:World} {v:Value} {l:List α} (h:Sl E sz f W v l):l.length≤9223372036854775807:=by
 obtain ⟨a,c,_,h1,h2⟩:=h.shape;omega
theorem aH.tiny {W:World} {y:Lay} {bs:List fY} {k:aI} (h:aH W y bs k):Tiny k:=
 ⟨Sl.len h.p,Sl.len h.t,Sl.len h.s,Sl.len h.pi,Sl.len h.h,Sl.len h.im,Sl.len h.ou,Sl.len h.ins_,by rw [← h.bse,List.length_map];exact Sl.len h.bx,Sl.len h.tr,Sl.len h.se,fun q hq=> by
   rw [← h.bse] at hq;obtain ⟨x,hx,rfl⟩:=List.mem_map.1 hq;exact Sl.len (h.ok x hx)⟩
theorem SameKern (va vb:Value) (k:aI) (w:World) (h1:pV w va k) (h2:pV w vb k):Calls Tryz.prog 24 #[va,vb] w (aN (.bool true) w):=by
 obtain ⟨ya,sa,rfl,hla⟩:=h1;obtain ⟨yb,sb,rfl,hlb⟩:=h2;have hn:=hla.tiny;obtain ⟨q0,q1⟩:=eF w w.heap.size (.cells (aJ ya k) 41) (.cells (aJ yb k) 41) rfl;have hb0:Below w.heap.size w ((w.alloc (.cells (aJ ya k) 41)).alloc (.cells (aJ yb k) 41)):=bel;obtain ⟨W0,hW0⟩:=exW ((w.alloc (.cells (aJ ya k) 41)).alloc (.cells (aJ yb k) 41));rw [hW0] at q0 q1 hb0;have HLA:=hU (fun W (h:Below w.heap.size w W)=> hla.below h);have HLB:=hU (fun W (h:Below w.heap.size w W)=> hlb.below h);have E_0:=hU hb0;have A0:=hU q0;have B0:=hU q1;clear q0 q1 hb0 hla hlb;obtain ⟨ia1,ic1,hia1,_,_⟩:=(HLA.out _ (Below.refl _ _)).im.shape;obtain ⟨ia2,ic2,hia2,_,_⟩:=(HLB.out _ (Below.refl _ _)).im.shape;obtain ⟨xa1,xc1,hxa1,_,_⟩:=(HLA.out _ (Below.refl _ _)).bx.shape;obtain ⟨xa2,xc2,hxa2,_,_⟩:=(HLB.out _ (Below.refl _ _)).bx.shape;have hsa:sa.length=k.box.length:=by rw [← (HLA.out _ (Below.refl _ _)).bse,List.length_map]
 have hsb:sb.length=k.box.length:=by rw [← (HLB.out _ (Below.refl _ _)).bse,List.length_map]
 have HI1:=hU hia1;have HI2:=hU hia2;have HX1:=hU hxa1;have HX2:=hU hxa2;have HSA:=hU hsa;have HSB:=hU hsb;clear hia1 hia2 hxa1 hxa2 hsa hsb;go_in;have fA0:W0.cell? ⟨w.heap.size,0,none⟩=some ya.p:=aC A0.out 0;have fB0:W0.cell? ⟨w.heap.size + 1,0,none⟩=some yb.p:=aC B0.out 0;repeat' (first|(rw [hW0];clear hW0)|go_values|go_skip|go_guarded|refine wg ?_|go_step|go_upon)
 refine (SameProc _ _ k.p _ (HLA.out _ E_0.out).p (HLB.out _ E_0.out).p hn.p).mono ?_;rintro er W1 ⟨rfl,hb⟩;have A1:=nB hb A0;have B1:=nB hb B0;have E_1:=hU (E_0.out.trans (hb.mono E_0.out.size));clear hb A0 B0 E_0 fA0 fB0;dsimp only;have fA1:W1.cell? ⟨w.heap.size,1,none⟩=some ya.t:=aC A1.out 1;have fB1:W1.cell? ⟨w.heap.size + 1,1,none⟩=some yb.t:=aC B1.out 1;have fA2:W1.cell? ⟨w.heap.size,2,none⟩=some (.int .i64 k.t.left):=aC A1.out 2;have fB2:W1.cell? ⟨w.heap.size + 1,2,none⟩=some (.int .i64 k.t.left):=aC B1.out 2;refine sg ?_;intros;refine (SameTurn _ _ k.t _ (HLA.out _ E_1.out).t (HLB.out _ E_1.out).t hn.t).mono ?_;rintro er W2 ⟨rfl,hb⟩;have A2:=nB hb A1;have B2:=nB hb B1;have E_2:=hU (E_1.out.trans (hb.mono E_1.out.size));clear hb A1 B1 E_1 fA1 fB1 fA2 fB2;dsimp only;have fA3:W2.cell? ⟨w.heap.size,3,none⟩=some ya.s:=aC A2.out 3;have fB3:W2.cell? ⟨w.heap.size + 1,3,none⟩=some yb.s:=aC B2.out 3;refine sg ?_;intros;refine (SameAlarm _ _ k.s _ (HLA.out _ E_2.out).s (HLB.out _ E_2.out).s hn.s).mono ?_;rintro er W3 ⟨rfl,hb⟩;have A3:=nB hb A2;have B3:=nB hb B2;have E_3:=hU (E_2.out.trans (hb.mono E_2.out.size));clear hb A2 B2 E_2 fA3 fB3;dsimp only;have fA4:W3.cell? ⟨w.heap.size,4,none⟩=some ya.pi:=aC A3.out 4;have fB4:W3.cell? ⟨w.heap.size + 1,4,none⟩=some yb.pi:=aC B3.out 4;refine sg ?_;intros;refine (SamePipe _ _ k.aG _ (HLA.out _ E_3.out).pi (HLB.out _ E_3.out).pi hn.pi).mono ?_;rintro er W4 ⟨rfl,hb⟩;have A4:=nB hb A3;have B4:=nB hb B3;have E_4:=hU (E_3.out.trans (hb.mono E_3.out.size));clear hb A3 B3 E_3 fA4 fB4;dsimp only;have fA5:W4.cell? ⟨w.heap.size,5,none⟩=some (.int .i64 k.hs):=aC A4.out 5;have fB5:W4.cell? ⟨w.heap.size + 1,5,none⟩=some (.int .i64 k.hs):=aC B4.out 5;have fA6:W4.cell? ⟨w.heap.size,6,none⟩=some ya.h:=aC A4.out 6;have fB6:W4.cell? ⟨w.heap.size + 1,6,none⟩=some yb.h:=aC B4.out 6;refine sg ?_;intros;refine (SameHeap _ _ k.h k.hs _ (HLA.out _ E_4.out).h (HLB.out _ E_4.out).h hn.h).mono ?_;rintro er W5 ⟨rfl,hb⟩;have A5:=nB hb A4;have B5:=nB hb B4;have E_5:=hU (E_4.out.trans (hb.mono E_4.out.size));clear hb A4 B4 E_4 fA5 fB5 fA6 fB6;dsimp only;have fA13:W5.cell? ⟨w.heap.size,13,none⟩=some ya.tr:=aC A5.out 13;have fB13:W5.cell? ⟨w.heap.size + 1,13,none⟩=some yb.tr:=aC B5.out 13;refine sg ?_;intros;refine (SameEv _ _ k.trace _ (HLA.out _ E_5.out).tr (HLB.out _ E_5.out).tr hn.tr).mono ?_;rintro er W6 ⟨rfl,hb⟩;have A6:=nB hb A5;have B6:=nB hb B5;have E_6:=hU (E_5.out.trans (hb.mono E_5.out.size));clear hb A5 B5 E_5 fA13 fB13;dsimp only;have fA14:W6.cell? ⟨w.heap.size,14,none⟩=some ya.se:=aC A6.out 14;have fB14:W6.cell? ⟨w.heap.size + 1,14,none⟩=some yb.se:=aC B6.out 14;refine sg ?_;intros;refine (SameOut _ _ k.sent _ (HLA.out _ E_6.out).se (HLB.out _ E_6.out).se hn.se).mono ?_;rintro er W7 ⟨rfl,hb⟩;have A7:=nB hb A6;have B7:=nB hb B6;have E_7:=hU (E_6.out.trans (hb.mono E_6.out.size));clear hb A6 B6 E_6 fA14 fB14;dsimp only;have fA9:W7.cell? ⟨w.heap.size,9,none⟩=some ya.ou:=aC A7.out 9;have fB9:W7.cell? ⟨w.heap.size + 1,9,none⟩=some yb.ou:=aC B7.out 9;refine sg ?_;intros;refine (SameChan _ _ k.outs _ (HLA.out _ E_7.out).ou (HLB.out _ E_7.out).ou hn.ou).mono ?_;rintro er W8 ⟨rfl,hb⟩;have A8:=nB hb A7;have B8:=nB hb B7;have E_8:=hU (E_7.out.trans (hb.mono E_7.out.size));clear hb A7 B7 E_7 fA9 fB9;dsimp only;have fA10:W8.cell? ⟨w.heap.size,10,none⟩=some ya.ins_:=aC A8.out 10;have fB10:W8.cell? ⟨w.heap.size + 1,10,none⟩=some yb.ins_:=aC B8.out 10;refine sg ?_;intros;refine (SameChan _ _ k.ins_ _ (HLA.out _ E_8.out).ins_ (HLB.out _ E_8.out).ins_ hn.ins_).mono ?_;rintro er W9 ⟨rfl,hb⟩;have A9:=nB hb A8;have B9:=nB hb B8;have E_9:=hU (E_8.out.trans (hb.mono E_8.out.size));clear hb A8 B8 E_8 fA10 fB10;dsimp only;have fA7:W9.cell? ⟨w.heap.size,7,none⟩=some (.int .u64 k.now):=aC A9.out 7;have fB7:W9.cell? ⟨w.heap.size + 1,7,none⟩=some (.int .u64 k.now):=aC B9.out 7;have fA12:W9.cell? ⟨w.heap.size,12,none⟩=some (.string k.cons):=aC A9.out 12;have fB12:W9.cell? ⟨w.heap.size + 1,12,none⟩=some (.string k.cons):=aC B9.out 12;have fA15:W9.cell? ⟨w.heap.size,15,none⟩=some (.int .i64 k.want):=aC A9.out 15;have fB15:W9.cell? ⟨w.heap.size + 1,15,none⟩=some (.int .i64 k.want):=aC B9.out 15;have fA16:W9.cell? ⟨w.heap.size,16,none⟩=some (.int .i64 k.gone):=aC A9.out 16;have fB16:W9.cell? ⟨w.heap.size + 1,16,none⟩=some (.int .i64 k.gone):=aC B9.out 16;have fA8:W9.cell? ⟨w.heap.size,8,none⟩=some (.slice ia1 k.images.length ic1):=(aC A9.out 8).trans (congrArg some HI1.out);have fB8:W9.cell? ⟨w.heap.size + 1,8,none⟩=some (.slice ia2 k.images.length ic2):=(aC B9.out 8).trans (congrArg some HI2.out);have fA11:W9.cell? ⟨w.heap.size,11,none⟩=some (.slice xa1 sa.length xc1):=(aC A9.out 11).trans (congrArg some HX1.out);have fB11:W9.cell? ⟨w.heap.size + 1,11,none⟩=some (.slice xa2 sb.length xc2):=(aC B9.out 11).trans (congrArg some HX2.out);have hss:(sa.length:Int)=(sb.length:Int):=by rw [HSA.out,HSB.out]
 refine sg ?_;intros;clear fA7 fB7 fA12 fB12 fA15 fB15 fA16 fB16 fA8 fB8 fA11 fB11;go_loopw [10] (fun iv wr=> SameR2 w (aJ ya k) (aJ yb k) 41 k.images.length iv wr) (fun iv _=> k.images.length - (intOf iv).toNat)
 case atStart=> exact ⟨0,Nat.zero_le _,rfl,A9.out,B9.out,E_9.out⟩
 case round=>
  clear A9 B9 E_9;obtain ⟨i,hi,rfl,hq0,hq1,hb⟩:=hrel;have HE:=hU hb;have Q0:=hU hq0;have Q1:=hU hq1;have f8:wr.cell? ⟨w.heap.size,8,none⟩=some (.slice ia1 k.images.length ic1):=(aC Q0.out 8).trans (congrArg some HI1.out);clear hb hq0 hq1;by_cases hil:i<k.images.length
  · obtain ⟨x,hx⟩:∃ x,k.images[i]? =some x:=⟨_,List.getElem?_eq_getElem hil⟩
    have e1:=(HLA.out _ (Below.refl _ _)).im;have e2:=(HLB.out _ (Below.refl _ _)).im;rw [HI1.out] at e1;rw [HI2.out] at e2;obtain ⟨g1,o1,rfl,_,hc1⟩:=e1.elem.2.2.2 i x hx;obtain ⟨g2,o2,rfl,_,hc2⟩:=e2.elem.2.2.2 i x hx;have HC1:=hU hc1;have HC2:=hU hc2;have hj1:(i:Int)<(k.images.length:Int):=by omega
    have hj0:(0:Int)≤(i:Int):=by omega
    clear hc1 hc2 hx e1 e2;refine sg ?_;intros;refine wp_region_noPanic ?_;refine go0 (S:=fun W=> W.cell? ⟨w.heap.size,8,none⟩=some (.slice (some ⟨g1,o1,none⟩) k.images.length ic1)∧W.cell? ⟨w.heap.size + 1,8,none⟩=some (.slice (some ⟨g2,o2,none⟩) k.images.length ic2)∧W.cell? ⟨g1,o1 + i,none⟩=some (.string x)∧W.cell? ⟨g2,o2 + i,none⟩=some (.string x)) [] (⟨(aC Q0.out 8).trans (congrArg some HI1.out),(aC Q1.out 8).trans (congrArg some HI2.out),by simpa using HC1.out _ HE.out.drew 0 (.string x) rfl,by simpa using HC2.out _ HE.out.drew 0 (.string x) rfl⟩) fun hS=> ?_;refine ts [.p 0,.l 1,.p 2,.p 3,.l 4,.p 5,.l 6,.p 7,.p 8,.l 9,.p 10] ?_;refine aZ (by kernel_rfl) (NoPanic.normal ?_) _;clear hS f8;have Q2:wr.drew.heap[w.heap.size]? =_:=Q0.out;have Q3:wr.drew.heap[w.heap.size + 1]? =_:=Q1.out;have HQ2:=hU Q2;have HQ3:=hU Q3;clear Q2 Q3;refine sg ?_;intros;exact ⟨⟨i + 1,by omega,by go_num,HQ2.out,HQ3.out,HE.out.drew⟩,by simp [intOf];omega⟩
  · refine sg ?_;intros;clear f8;obtain ⟨wo,rfl⟩:∃ wo:World,wo=wr:=⟨wr,rfl⟩
    go_loopw [11] (fun iv wr=> SameR2 w (aJ ya k) (aJ yb k) 41 k.box.length iv wr) (fun iv _=> k.box.length - (intOf iv).toNat)
    case atStart=> exact ⟨0,Nat.zero_le _,rfl,Q0.out,Q1.out,HE.out⟩
    case round=>
     clear Q0 Q1 HE;obtain ⟨j,hj,rfl,hq0,hq1,hb⟩:=hrel;have HE:=hU hb;have Q0:=hU hq0;have Q1:=hU hq1;have f11:wr.cell? ⟨w.heap.size,11,none⟩=some (.slice xa1 sa.length xc1):=(aC Q0.out 11).trans (congrArg some HX1.out);clear hb hq0 hq1;by_cases hjl:j<k.box.length
     · have hj1:(j:Int)<(sa.length:Int):=by rw [HSA.out];omega
       have hj2:(j:Int)<(sb.length:Int):=by rw [HSB.out];omega
       have hj0:(0:Int)≤(j:Int):=by omega
       obtain ⟨⟨a1,c1,z1⟩,hx1⟩:∃ x,sa[j]? =some x:=⟨_,List.getElem?_eq_getElem (by omega)⟩
       obtain ⟨⟨a2,c2,z2⟩,hx2⟩:∃ x,sb[j]? =some x:=⟨_,List.getElem?_eq_getElem (by omega)⟩
       have hz1:k.box[j]? =some z1:=by rw [← (HLA.out _ (Below.refl _ _)).bse,List.getElem?_map,hx1];rfl
       have hz2:k.box[j]? =some z2:=by rw [← (HLB.out _ (Below.refl _ _)).bse,List.getElem?_map,hx2];rfl
       obtain rfl:z1=z2:=by rw [hz1] at hz2;exact Option.some.inj hz2
       have hbl:=hn.bl z1 (List.mem_of_getElem? hz1);obtain ⟨zl,zt⟩:=z1;have OK1:=hU (fun W (h:Below w.heap.size w W)=> (HLA.out W h).ok _ (List.mem_of_getElem? hx1));have OK2:=hU (fun W (h:Below w.heap.size w W)=> (HLB.out W h).ok _ (List.mem_of_getElem? hx2));have e1:=(HLA.out _ (Below.refl _ _)).bx;have e2:=(HLB.out _ (Below.refl _ _)).bx;rw [HX1.out] at e1;rw [HX2.out] at e2;obtain ⟨g1,o1,rfl,_,hc1⟩:=e1.elem.2.2.2 j _ hx1;obtain ⟨g2,o2,rfl,_,hc2⟩:=e2.elem.2.2.2 j _ hx2;have HC1:=hU hc1;have HC2:=hU hc2;clear hc1 hc2 hx1 hx2 hz1 hz2 e1 e2;refine sg ?_;intros;refine wp_region_noPanic ?_;refine go0 (S:=fun W=> W.cell? ⟨w.heap.size,11,none⟩=some (.slice (some ⟨g1,o1,none⟩) sa.length xc1)∧W.cell? ⟨w.heap.size + 1,11,none⟩=some (.slice (some ⟨g2,o2,none⟩) sb.length xc2)∧(∀ i u,(#[.slice a1 zl.length c1,.int .i64 zt]:Array Value)[i]? =some u→W.cell? ⟨g1,o1 + j * 2 + i,none⟩=some u)∧(∀ i u,(#[.slice a2 zl.length c2,.int .i64 zt]:Array Value)[i]? =some u→W.cell? ⟨g2,o2 + j * 2 + i,none⟩=some u)) [] (⟨(aC Q0.out 11).trans (congrArg some HX1.out),(aC Q1.out 11).trans (congrArg some HX2.out),HC1.out _ HE.out.drew,HC2.out _ HE.out.drew⟩) fun hS=> ?_;refine ts [.p 0,.l 1,.p 2,.p 3] ?_;refine tv 4 (.agg #[.slice a1 zl.length c1,.int .i64 zt]) (fun W hSW=> aR rfl rfl (cA lB rfl hSW.2.2.1)) ?_;(try simp only [aF])
       refine ts [.p 5,.l 6,.p 7,.p 8] ?_;refine tv 9 (.agg #[.slice a2 zl.length c2,.int .i64 zt]) (fun W hSW=> aR rfl rfl (cA lB rfl hSW.2.2.2)) ?_;(try simp only [aF])
       refine ro 10 fun K hK=> ?_;refine want rfl ?_;go_simp;refine (SameBox a1 a2 c1 c2 zl zt _ (OK1.out _ HE.out.drew) (OK2.out _ HE.out.drew) hbl).mono ?_;rintro er W2 ⟨rfl,hb⟩;have HE2:=hU (HE.out.drew.trans (hb.mono HE.out.drew.size));have Q2:=nB hb (show Hid (wr.drew.heap[w.heap.size]? =_) from hU Q0.out);have Q3:=nB hb (show Hid (wr.drew.heap[w.heap.size + 1]? =_) from hU Q1.out);clear hb;dsimp only;try clear hS
       refine nx hK (⟨(aC Q2.out 11).trans (congrArg some HX1.out),(aC Q3.out 11).trans (congrArg some HX2.out),HC1.out _ HE2.out,HC2.out _ HE2.out⟩) fun hS=> ?_;clear hK K;(try simp only [aF])
       refine tp 11 ?_;try simp only [aF]
       refine aZ (by kernel_rfl) (NoPanic.normal ?_) _;clear hS f11;refine sg ?_;intros;exact ⟨⟨j + 1,by omega,by go_num,Q2.out,Q3.out,HE2.out⟩,by simp [intOf];omega⟩
     · have hjs:¬ (j:Int)<(sa.length:Int):=by rw [HSA.out];omega
       refine sg ?_;intros;go_ret;exact cF rfl HE.out
theorem SameSeat (va vb:Value) (s:dU) (w:World) (h1:xP w va s) (h2:xP w vb s):Calls Tryz.prog 32 #[va,vb] w (aN (.bool true) w):=by
 obtain ⟨ya,sa,rfl,hla⟩:=h1;obtain ⟨yb,sb,rfl,hlb⟩:=h2;obtain ⟨q0,q1⟩:=eF w w.heap.size (.cells (aY ya s) 67) (.cells (aY yb s) 67) rfl;have hb0:Below w.heap.size w ((w.alloc (.cells (aY ya s) 67)).alloc (.cells (aY yb s) 67)):=bel;obtain ⟨W0,hW0⟩:=exW ((w.alloc (.cells (aY ya s) 67)).alloc (.cells (aY yb s) 67));rw [hW0] at q0 q1 hb0;have A0:=hU q0;have R0:=hU q1;have B0:=hU hb0;have e4:=SameKern (.agg (aJ ya s.k)) (.agg (aJ yb s.k)) s.k W0 ⟨ya,sa,rfl,hla.below hb0⟩ ⟨yb,sb,rfl,hlb.below hb0⟩;have HST:=hU e4;clear q0 q1 hb0 hla hlb e4;go_in
 repeat' (first
  |(rw [hW0];clear hW0)
  |(refine aE (t:=41) (v:=.agg (aJ ya s.k)) rfl rfl rfl (cB cR A0.out (qGu _ _) rfl) ?_)
  |(refine aE (t:=41) (v:=.agg (aJ yb s.k)) rfl rfl rfl (cB cR R0.out (qGu _ _) rfl) ?_)
  |go_values|go_skip|go_guarded|refine wg ?_|go_step|go_upon)
 refine HST.out.mono ?_;rintro er W1 ⟨rfl,hb1⟩;have f1:W1.cell? ⟨w.heap.size,17,none⟩=some (.int .i64 s.st):=aC (nB hb1 A0).out 17;have f2:W1.cell? ⟨w.heap.size,18,none⟩=some (.int .i64 s.boots):=aC (nB hb1 A0).out 18;have f3:W1.cell? ⟨w.heap.size + 1,17,none⟩=some (.int .i64 s.st):=aC (nB hb1 R0).out 17;have f4:W1.cell? ⟨w.heap.size + 1,18,none⟩=some (.int .i64 s.boots):=aC (nB hb1 R0).out 18;have B1:=hU (B0.out.trans (hb1.mono B0.out.size));clear hb1;dsimp only;refine sg ?_;intros;go_ret;exact cF (by simp) B1.out
end Kn
end Go.Proofs.YtfncknignkndiaaGreatDoor
namespace Go.Proofs.YtfncknignkndiaaGreatDoor
open Go.RowKit KR Kn RegT3
theorem info_int:(Tryz.prog.info? 3).map (fun i=> i.size)=some 1:=by kernel_rfl
theorem arr_act (d:Nat) (W:World) (xs ys:Array Value):(Op.equalIn (d + 1) 74 (.agg xs) (.agg ys)).run Tryz.prog W=(qOw d 3 1 xs ys 0 3).run Tryz.prog W:=by
 obtain ⟨i,hi,hs⟩:=Option.map_eq_some_iff.1 info_int;have e:qZe Tryz.prog 74=(3,3):=by unfold qZe;rw [Tryz.underlying74]
 have h:=run_equalIn_array (P:=Tryz.prog) W d 74 xs ys i (by rw [e];exact Tryz.underlying74) (by rw [e];exact hi);rw [e,hs] at h;exact h
namespace Hy
theorem qWin (W:World) (a0 a1 a2:Int):(binOp .neq 96 (.agg #[.int .i64 a0,.int .i64 a1,.int .i64 a2]) (.agg #[.int .i64 a0,.int .i64 a1,.int .i64 a2])).run Tryz.prog W=.ok (.bool false) W:=by
 go_simp
theorem qChan (W:World) (a0 a1 a2 a3 a4:Int):(binOp .neq 102 (.agg #[.int .i64 a0,.int .i64 a1,.int .i64 a2,.int .i64 a3,.int .i64 a4]) (.agg #[.int .i64 a0,.int .i64 a1,.int .i64 a2,.int .i64 a3,.int .i64 a4])).run Tryz.prog W=.ok (.bool false) W:=by
 go_simp
theorem qPart (W:World) (a0 a1 a2 a3:Int):(binOp .neq 76 (.agg #[.int .i64 a0,.int .i64 a1,.int .i64 a2,.int .i64 a3]) (.agg #[.int .i64 a0,.int .i64 a1,.int .i64 a2,.int .i64 a3])).run Tryz.prog W=.ok (.bool false) W:=by
 have hA:=arr_act;go_simp
theorem qStamp (x:jZ) (W:World):(binOp .neq 131 (.agg (jZ.cells x)) (.agg (jZ.cells x))).run Tryz.prog W=.ok (.bool false) W:=by
 unfold jZ.cells;go_simp
theorem planE {W:World} {vp vw vc:Value} {P:Pl.fH} (h:jX W (.agg (eV vp vw vc P.fr)) P):iG W 4 vp P.ps∧nF W vw P.ws∧iG W 5 vc P.cs:=by
 obtain ⟨vp',vw',vc',hv,h1,h2,h3⟩:=h;unfold eV at hv;injection hv with hv
 simp only [Array.mk.injEq,List.cons.injEq,and_true,true_and] at hv;obtain ⟨rfl,rfl,rfl⟩:=hv;exact ⟨h1,h2,h3⟩
theorem aggStampE:Agg Tryz.prog 131 3:=gD Tryz.underlying131 rfl (by kernel_rfl)
theorem ETexts (u:Value) (l:List ByteArray) (w:World) (h1:Rd 1 strCells w u l):Calls Tryz.prog 72 #[u,u] w (aN (.bool true) w):=by
 obtain ⟨a1,c1,rfl,hm1,hm2⟩:=h1.shape;have H1:=hU h1.elem.2.2.2;clear h1;go_in;refine sg ?_;intros;go_loopw [5] (fun iv wr=> SameR w l.length iv wr) (fun iv _=> l.length - (intOf iv).toNat)
 case atStart=> exact ⟨0,Nat.zero_le _,rfl,Below.refl _ _⟩
 case round=>
  obtain ⟨k,hk,rfl,hb⟩:=hrel;by_cases hkl:k<l.length
  · obtain ⟨x,hx⟩:∃ x,l[k]? =some x:=⟨_,List.getElem?_eq_getElem hkl⟩
    obtain ⟨g1,o1,rfl,_,hc1⟩:=H1.out k x hx;have HC1:=hU hc1;clear hc1 H1;have HB:=hU hb;have hj1:(k:Int)<(l.length:Int):=by omega
    have hj0:(0:Int)≤(k:Int):=by omega
    clear hb hx;refine sg ?_;intros;refine wp_region_noPanic ?_;refine go0 (S:=fun W=> W.cell? ⟨g1,o1 + k,none⟩=some (.string x)) [] (by simpa using HC1.out _ HB.out.drew 0 (.string x) rfl) fun hS=> ?_;refine tp 0 ?_;(try simp only [aF])
    refine tp 1 ?_;(try simp only [aF])
    refine tp 2 ?_;(try simp only [aF])
    refine tl 3 ?_;(try simp only [aF])
    refine tp 4 ?_;(try simp only [aF])
    refine tp 5 ?_;(try simp only [aF])
    refine tp 6 ?_;(try simp only [aF])
    refine tl 7 ?_;(try simp only [aF])
    refine tp 8 ?_;(try simp only [aF])
    refine aZ (by kernel_rfl) (NoPanic.normal ?_) _;clear hS;refine sg ?_;intros;exact ⟨⟨k + 1,by omega,by go_num,HB.out.drew⟩,by simp [intOf];omega⟩
  · have HB:=hU hb;clear hb;refine sg ?_;intros;go_ret;exact cF rfl HB.out
theorem EStamps (u v:Value) (l:List jZ) (w:World) (h1:Sl 131 3 jZ.cells w u l) (h2:Sl 131 3 jZ.cells w v l):Calls Tryz.prog 73 #[u,v] w (aN (.bool true) w):=by
 obtain ⟨a1,c1,rfl,hm1,hm2⟩:=h1.shape;obtain ⟨a2,c2,rfl,_,_⟩:=h2.shape;have H1:=hU h1.elem.2.2.2;have H2:=hU h2.elem.2.2.2;clear h1 h2;go_in;refine sg ?_;intros;go_loopw [5] (fun iv wr=> SameR w l.length iv wr) (fun iv _=> l.length - (intOf iv).toNat)
 case atStart=> exact ⟨0,Nat.zero_le _,rfl,Below.refl _ _⟩
 case round=>
  obtain ⟨k,hk,rfl,hb⟩:=hrel;by_cases hkl:k<l.length
  · obtain ⟨x,hx⟩:∃ x,l[k]? =some x:=⟨_,List.getElem?_eq_getElem hkl⟩
    obtain ⟨g1,o1,rfl,_,hc1⟩:=H1.out k x hx;obtain ⟨g2,o2,rfl,_,hc2⟩:=H2.out k x hx;have HC1:=hU hc1;have HC2:=hU hc2;clear hc1 hc2 H1 H2;have HB:=hU hb;have hj1:(k:Int)<(l.length:Int):=by omega
    have hj0:(0:Int)≤(k:Int):=by omega
    clear hb hx;have hq:=qStamp x;refine sg ?_;intros;refine wp_region_noPanic ?_;refine go0 (S:=fun W=> (∀ j u,(jZ.cells x)[j]? =some u→W.cell? ⟨g1,o1 + k * 3 + j,none⟩=some u)∧(∀ j u,(jZ.cells x)[j]? =some u→W.cell? ⟨g2,o2 + k * 3 + j,none⟩=some u)) [] (⟨HC1.out _ HB.out.drew,HC2.out _ HB.out.drew⟩) fun hS=> ?_;refine tp 0 ?_;(try simp only [aF])
    refine tp 1 ?_;(try simp only [aF])
    refine tp 2 ?_;(try simp only [aF])
    refine tv 3 (.agg (jZ.cells x)) (fun W hSW=> aR rfl rfl (cA aggStampE rfl hSW.1)) ?_;(try simp only [aF])
    refine tp 4 ?_;(try simp only [aF])
    refine tp 5 ?_;(try simp only [aF])
    refine tp 6 ?_;(try simp only [aF])
    refine tv 7 (.agg (jZ.cells x)) (fun W hSW=> aR rfl rfl (cA aggStampE rfl hSW.2)) ?_;(try simp only [aF])
    refine tp 8 ?_;(try simp only [aF])
    refine aZ (by kernel_rfl) (NoPanic.normal ?_) _;clear hS;refine sg ?_;intros;exact ⟨⟨k + 1,by omega,by go_num,HB.out.drew⟩,by simp [intOf];omega⟩
  · have HB:=hU hb;clear hb;refine sg ?_;intros;go_ret;exact cF rfl HB.out
def PlR (w:World) (pc:Array Value) (n:Nat) (v:Value) (W:World):Prop:=∃ k:Nat,k≤n∧v=.int .i64 k∧Hid (W.heap[w.heap.size]? =some (.cells pc 53 (0,0)))∧Hid (W.heap[w.heap.size + 1]? =some (.cells pc 53 (0,0)))∧Hid (Below w.heap.size w W)
theorem EPlan (vp vw vc:Value) (P:Pl.fH) (w:World) (h:jX w (.agg (eV vp vw vc P.fr)) P):
 Calls Tryz.prog 71 #[.agg (eV vp vw vc P.fr),.agg (eV vp vw vc P.fr)] w (aN (.bool true) w):=by
 obtain ⟨hup,huw,huc⟩:=planE h;clear h;obtain ⟨ps,fr,ws,cs⟩:=P;dsimp only at *;have HUP:=hU hup;have HUW:=hU huw;have HUC:=hU huc;obtain ⟨a1,c1,rfl,n1,_⟩:=hup;obtain ⟨a2,c2,rfl,n2,_⟩:=huw;obtain ⟨a3,c3,rfl,n3,_⟩:=huc;obtain ⟨q0,q1⟩:=eF w w.heap.size (.cells (eV (.slice a1 ps.length c1) (.slice a2 ws.length c2) (.slice a3 cs.length c3) fr) 53) (.cells (eV (.slice a1 ps.length c1) (.slice a2 ws.length c2) (.slice a3 cs.length c3) fr) 53) rfl;have hb0:Below w.heap.size w ((w.alloc (.cells (eV (.slice a1 ps.length c1) (.slice a2 ws.length c2) (.slice a3 cs.length c3) fr) 53)).alloc (.cells (eV (.slice a1 ps.length c1) (.slice a2 ws.length c2) (.slice a3 cs.length c3) fr) 53)):=bel;obtain ⟨W0,hW0⟩:=exW ((w.alloc (.cells (eV (.slice a1 ps.length c1) (.slice a2 ws.length c2) (.slice a3 cs.length c3) fr) 53)).alloc (.cells (eV (.slice a1 ps.length c1) (.slice a2 ws.length c2) (.slice a3 cs.length c3) fr) 53));rw [hW0] at q0 q1 hb0;have HX:=hU q0;have HY:=hU q1;have HB:=hU hb0;have f0:W0.cell? ⟨w.heap.size,0,none⟩=some (.slice a1 ps.length c1):=aC HX.out 0;have f1:W0.cell? ⟨w.heap.size,1,none⟩=some (.int .i64 fr):=aC HX.out 1;have f2:W0.cell? ⟨w.heap.size,2,none⟩=some (.slice a2 ws.length c2):=aC HX.out 2;have f3:W0.cell? ⟨w.heap.size,3,none⟩=some (.slice a3 cs.length c3):=aC HX.out 3;have g0:W0.cell? ⟨w.heap.size + 1,0,none⟩=some (.slice a1 ps.length c1):=aC HY.out 0;have g1:W0.cell? ⟨w.heap.size + 1,1,none⟩=some (.int .i64 fr):=aC HY.out 1;have g2:W0.cell? ⟨w.heap.size + 1,2,none⟩=some (.slice a2 ws.length c2):=aC HY.out 2;have g3:W0.cell? ⟨w.heap.size + 1,3,none⟩=some (.slice a3 cs.length c3):=aC HY.out 3;clear q0 q1 hb0;go_in;repeat' (first|(rw [hW0];clear hW0)|go_values|go_skip|go_guarded|refine wg ?_|go_step|go_upon|go_quiet (fail))
 clear f0 f1 f2 f3 g0 g1 g2 g3;go_loopw [5] (fun v wr=> PlR w (eV (.slice a1 ps.length c1) (.slice a2 ws.length c2) (.slice a3 cs.length c3) fr) ps.length v wr) (fun v _=> ps.length - (intOf v).toNat)
 case atStart=> exact ⟨0,Nat.zero_le _,rfl,HX,HY,HB⟩
 case round=>
  clear HX HY HB;obtain ⟨k,hk,rfl,HX,HY,HB⟩:=hrel;have f0:wr.cell? ⟨w.heap.size,0,none⟩=some (.slice a1 ps.length c1):=aC HX.out 0;have f2:wr.cell? ⟨w.heap.size,2,none⟩=some (.slice a2 ws.length c2):=aC HX.out 2;have f3:wr.cell? ⟨w.heap.size,3,none⟩=some (.slice a3 cs.length c3):=aC HX.out 3;have g0:wr.cell? ⟨w.heap.size + 1,0,none⟩=some (.slice a1 ps.length c1):=aC HY.out 0;have g2:wr.cell? ⟨w.heap.size + 1,2,none⟩=some (.slice a2 ws.length c2):=aC HY.out 2;have g3:wr.cell? ⟨w.heap.size + 1,3,none⟩=some (.slice a3 cs.length c3):=aC HY.out 3;by_cases hlt:k<ps.length
  · obtain ⟨a',c',hav,_,hnil|⟨b,off,rfl,hbl,hcl⟩⟩:=HUP.out
    · rw [hnil] at hlt;exact absurd hlt (Nat.not_lt_zero _)
    cases hav;have at_:=fun i hi=> (HB.out.cell (p:=⟨b,off + k * 4 + i,none⟩) hbl).trans (hcl k i hlt hi);have d0:=at_ 0 (by omega);have d1:=at_ 1 (by omega);have d2:=at_ 2 (by omega);have d3:=at_ 3 (by omega);rw [Nat.add_zero] at d0;have i0:(0:Int)≤(k:Int):=by omega
    have i1:(k:Int)<(ps.length:Int):=by omega
    clear at_ hcl;generalize ps.getD k []=r at *;have hq:=fun W=> qPart W (Pl.g r 0) (Pl.g r 1) (Pl.g r 2) (Pl.g r 3);repeat' (first|go_values|go_skip|go_guarded|refine wg ?_|go_step|go_upon|go_quiet (fail))
    exact ⟨⟨k + 1,by omega,by go_num,HX,HY,hU (HB.out.trans bel)⟩,by simp [intOf];omega⟩
  · obtain rfl:k=ps.length:=by omega
    have e1:decide ((ps.length:Int)<(ps.length:Int))=false:=by simp
    repeat' (first|go_values|go_skip|go_guarded|refine wg ?_|go_step|go_upon|go_quiet (fail))
    clear f0 f2 f3 g0 g2 g3;go_loopw [6] (fun v wr=> PlR w (eV (.slice a1 ps.length c1) (.slice a2 ws.length c2) (.slice a3 cs.length c3) fr) ws.length v wr) (fun v _=> ws.length - (intOf v).toNat)
    case atStart=> exact ⟨0,Nat.zero_le _,rfl,HX,HY,HB⟩
    case round=>
     clear HX HY HB;obtain ⟨k,hk,rfl,HX,HY,HB⟩:=hrel;have f0:wr.cell? ⟨w.heap.size,0,none⟩=some (.slice a1 ps.length c1):=aC HX.out 0;have f2:wr.cell? ⟨w.heap.size,2,none⟩=some (.slice a2 ws.length c2):=aC HX.out 2;have f3:wr.cell? ⟨w.heap.size,3,none⟩=some (.slice a3 cs.length c3):=aC HX.out 3;have g0:wr.cell? ⟨w.heap.size + 1,0,none⟩=some (.slice a1 ps.length c1):=aC HY.out 0;have g2:wr.cell? ⟨w.heap.size + 1,2,none⟩=some (.slice a2 ws.length c2):=aC HY.out 2;have g3:wr.cell? ⟨w.heap.size + 1,3,none⟩=some (.slice a3 cs.length c3):=aC HY.out 3;by_cases hlt:k<ws.length
     · obtain ⟨a',c',hav,_,hnil|⟨b,off,rfl,hbl,hcl⟩⟩:=HUW.out
       · rw [hnil] at hlt;exact absurd hlt (Nat.not_lt_zero _)
       cases hav;obtain ⟨u,hu,hrow⟩:=hcl k hlt;have HR:=hU hrow;obtain ⟨ra,rc,rfl,nr,_⟩:=hrow;have HCU:=hU hu;have cu:=(HB.out.cell (p:=⟨b,off + k,none⟩) hbl).trans hu;have i0:(0:Int)≤(k:Int):=by omega
       have i1:(k:Int)<(ws.length:Int):=by omega
       clear hcl hu;generalize ws.getD k []=row at *;repeat' (first|go_values|go_skip|go_guarded|refine wg ?_|go_step|go_upon|go_quiet (fail))
       clear cu f0 f2 f3 g0 g2 g3;go_loopw [7] (fun v wr=> PlR w (eV (.slice a1 ps.length c1) (.slice (some ⟨b,off,none⟩) ws.length c2) (.slice a3 cs.length c3) fr) row.length v wr) (fun v _=> row.length - (intOf v).toNat)
       case atStart=> exact ⟨0,Nat.zero_le _,rfl,HX,HY,hU (HB.out.trans bel)⟩
       case round=>
        clear HX HY HB;obtain ⟨j,hj,rfl,HX,HY,HB⟩:=hrel;have f0:wr.cell? ⟨w.heap.size,0,none⟩=some (.slice a1 ps.length c1):=aC HX.out 0;have f2:wr.cell? ⟨w.heap.size,2,none⟩=some (.slice (some ⟨b,off,none⟩) ws.length c2):=aC HX.out 2;have f3:wr.cell? ⟨w.heap.size,3,none⟩=some (.slice a3 cs.length c3):=aC HX.out 3;have g0:wr.cell? ⟨w.heap.size + 1,0,none⟩=some (.slice a1 ps.length c1):=aC HY.out 0;have g2:wr.cell? ⟨w.heap.size + 1,2,none⟩=some (.slice (some ⟨b,off,none⟩) ws.length c2):=aC HY.out 2;have g3:wr.cell? ⟨w.heap.size + 1,3,none⟩=some (.slice a3 cs.length c3):=aC HY.out 3;have cu:=(HB.out.cell (p:=⟨b,off + k,none⟩) hbl).trans HCU.out;by_cases hjt:j<row.length
        · obtain ⟨e',f',hav,_,hnil|⟨g,og,rfl,hgl,hcl⟩⟩:=HR.out
          · rw [hnil] at hjt;exact absurd hjt (Nat.not_lt_zero _)
          cases hav;have at_:=fun i hi=> (HB.out.cell (p:=⟨g,og + j * 3 + i,none⟩) hgl).trans (hcl j i hjt hi);have d0:=at_ 0 (by omega);have d1:=at_ 1 (by omega);have d2:=at_ 2 (by omega);rw [Nat.add_zero] at d0;have j0:(0:Int)≤(j:Int):=by omega
          have j1:(j:Int)<(row.length:Int):=by omega
          clear at_ hcl;generalize row.getD j []=r at *;have hq:=fun W=> qWin W (Pl.g r 0) (Pl.g r 1) (Pl.g r 2);repeat' (first|go_values|go_skip|go_guarded|refine wg ?_|go_step|go_upon|go_quiet (fail))
          exact ⟨⟨j + 1,by omega,by go_num,HX,HY,hU (HB.out.trans bel)⟩,by simp [intOf];omega⟩
        · obtain rfl:j=row.length:=by omega
          have e1:decide ((row.length:Int)<(row.length:Int))=false:=by simp
          repeat' (first|go_values|go_skip|go_guarded|refine wg ?_|go_step|go_upon|go_quiet (fail))
          exact ⟨⟨k + 1,by omega,by go_num,HX,HY,HB⟩,by simp [intOf];omega⟩
     · obtain rfl:k=ws.length:=by omega
       have e1:decide ((ws.length:Int)<(ws.length:Int))=false:=by simp
       repeat' (first|go_values|go_skip|go_guarded|refine wg ?_|go_step|go_upon|go_quiet (fail))
       clear f0 f2 f3 g0 g2 g3;go_loopw [8] (fun v wr=> PlR w (eV (.slice a1 ps.length c1) (.slice a2 ws.length c2) (.slice a3 cs.length c3) fr) cs.length v wr) (fun v _=> cs.length - (intOf v).toNat)
       case atStart=> exact ⟨0,Nat.zero_le _,rfl,HX,HY,HB⟩
       case round=>
        clear HX HY HB;obtain ⟨k,hk,rfl,HX,HY,HB⟩:=hrel;have f0:wr.cell? ⟨w.heap.size,0,none⟩=some (.slice a1 ps.length c1):=aC HX.out 0;have f2:wr.cell? ⟨w.heap.size,2,none⟩=some (.slice a2 ws.length c2):=aC HX.out 2;have f3:wr.cell? ⟨w.heap.size,3,none⟩=some (.slice a3 cs.length c3):=aC HX.out 3;have g0:wr.cell? ⟨w.heap.size + 1,0,none⟩=some (.slice a1 ps.length c1):=aC HY.out 0;have g2:wr.cell? ⟨w.heap.size + 1,2,none⟩=some (.slice a2 ws.length c2):=aC HY.out 2;have g3:wr.cell? ⟨w.heap.size + 1,3,none⟩=some (.slice a3 cs.length c3):=aC HY.out 3;by_cases hlt:k<cs.length
        · obtain ⟨a',c',hav,_,hnil|⟨b,off,rfl,hbl,hcl⟩⟩:=HUC.out
          · rw [hnil] at hlt;exact absurd hlt (Nat.not_lt_zero _)
          cases hav;have at_:=fun i hi=> (HB.out.cell (p:=⟨b,off + k * 5 + i,none⟩) hbl).trans (hcl k i hlt hi);have d0:=at_ 0 (by omega);have d1:=at_ 1 (by omega);have d2:=at_ 2 (by omega);have d3:=at_ 3 (by omega);have d4:=at_ 4 (by omega);rw [Nat.add_zero] at d0;have i0:(0:Int)≤(k:Int):=by omega
          have i1:(k:Int)<(cs.length:Int):=by omega
          clear at_ hcl;generalize cs.getD k []=r at *;have hq:=fun W=> qChan W (Pl.g r 0) (Pl.g r 1) (Pl.g r 2) (Pl.g r 3) (Pl.g r 4);repeat' (first|go_values|go_skip|go_guarded|refine wg ?_|go_step|go_upon|go_quiet (fail))
          exact ⟨⟨k + 1,by omega,by go_num,HX,HY,hU (HB.out.trans bel)⟩,by simp [intOf];omega⟩
        · obtain rfl:k=cs.length:=by omega
          have e1:decide ((cs.length:Int)<(cs.length:Int))=false:=by simp
          repeat' (first|go_values|go_skip|go_guarded|refine wg ?_|go_step|go_upon|go_quiet (fail))
          clear f0 f2 f3 g0 g2 g3;go_ret;exact cF rfl HB.out
theorem wantY {P:Program} {ops:Array Oper} {Q:Exit→Act→World→Prop} {o:Oper} {a:Act} {w:World} {K:Act→World→Prop} {E:Prop} (hw:Region.wanted o (yielded ops a.tmps)=true) (h:Oper.wp P o a w K Q):if Region.wanted o (yielded ops a.tmps)=true then Oper.wp P o a w K Q else E:=by
 rw [if_pos hw];exact h
def EqR (w:World) (ca cb:Array Value) (n:Nat) (v:Value) (W:World):Prop:=∃ k:Nat,k≤n∧v=.int .i64 k∧Hid (W.heap[w.heap.size]? =some (.cells ca 61 (0,0)))∧Hid (W.heap[w.heap.size + 1]? =some (.cells cb 61 (0,0)))∧Hid (Below w.heap.size w W)
theorem ycellsE (y:YL) (m:cX):(aS y m).extract 0 (0 + 4)=eV y.vp y.vw y.vc m.p.fr:=by
 unfold aS eV;simp
theorem ESys (ya yb:YL) (m:cX) (img:List (List ByteArray)) (w:World) (h1:cW w ya m) (h2:cW w yb m) (hv:yb.vp=ya.vp∧yb.vw=ya.vw∧yb.vc=ya.vc∧yb.im=ya.im) (him:tP w ya.im img):
 Calls Tryz.prog 33 #[.agg (aS ya m),.agg (aS yb m)] w (aN (.bool true) w):=by
 obtain ⟨hv1,hv2,hv3,hv4⟩:=hv;obtain ⟨q0,q1⟩:=eF w w.heap.size (.cells (aS ya m) 61) (.cells (aS yb m) 61) rfl;have hb0:Below w.heap.size w ((w.alloc (.cells (aS ya m) 61)).alloc (.cells (aS yb m) 61)):=bel;obtain ⟨W0,hW0⟩:=exW ((w.alloc (.cells (aS ya m) 61)).alloc (.cells (aS yb m) 61));rw [hW0] at q0 q1 hb0;have HX:=hU q0;have HY:=hU q1;have HB:=hU hb0;have HPE:=hU (fun W (hb:Below w.heap.size w W)=> EPlan ya.vp ya.vw ya.vc m.p W (h1.pl.below hb).pl);have HPC:Hid ((aS yb m).extract 0 (0 + 4)=eV ya.vp ya.vw ya.vc m.p.fr):=hU (by rw [ycellsE,hv1,hv2,hv3]);have HIM:=hU him;have HIE:=hU hv4;obtain ⟨a4,c4,ha4,hy1,hy2,_⟩:=id him;obtain ⟨a8a,c8a,h8a,_,_⟩:=h1.se.1.shape;rw [h1.len.1] at h8a;obtain ⟨a9a,c9a,h9a,_,_⟩:=h1.ar.1.shape;rw [h1.len.2] at h9a;obtain ⟨a8b,c8b,h8b,_,_⟩:=h2.se.1.shape;rw [h2.len.1] at h8b;obtain ⟨a9b,c9b,h9b,_,_⟩:=h2.ar.1.shape;rw [h2.len.2] at h9b;have hn4:img.length≤9223372036854775807:=by omega
 have hn8:m.seats.length≤9223372036854775807:=by have:=h1.len.1;omega
 have hn9:m.arr.length≤9223372036854775807:=by have:=h1.len.2;omega
 have H1:=hU h1;have H2:=hU h2;have HSH4:Hid (∃ a c,ya.im=.slice a img.length c∧True):=hU ⟨_,_,ha4,trivial⟩;have HSH8:Hid (∃ a c,ya.se=.slice a m.seats.length c∧True):=hU ⟨_,_,h8a,trivial⟩;have HSH9:Hid (∃ a c,ya.ar=.slice a m.arr.length c∧True):=hU ⟨_,_,h9a,trivial⟩;have HFF:=hU (And.intro ha4 (And.intro hv4 (And.intro h8a (And.intro h9a (And.intro h8b h9b)))));clear q0 q1 hb0 him h1 h2 hv1 hv2 hv3 hv4 ha4 h8a h9a h8b h9b;go_in
 repeat' (first
  |(rw [hW0];clear hW0)
  |(refine aE (t:=53) (v:=.agg (eV ya.vp ya.vw ya.vc m.p.fr)) rfl rfl rfl (cB zO HX.out (ycellsE _ _) rfl) ?_)
  |(refine aE (t:=53) (v:=.agg (eV ya.vp ya.vw ya.vc m.p.fr)) rfl rfl rfl (cB zO HY.out HPC.out rfl) ?_)
  |go_values|go_skip|go_guarded|refine wg ?_|go_step|go_upon)
 refine (HPE.out _ HB.out).mono ?_;rintro er Wn ⟨rfl,hb⟩;replace HX:=nB hb HX;replace HY:=nB hb HY;replace HB:=nW hb HB;clear hb HPE HPC;obtain ⟨ha4,hv4,h8a,h9a,h8b,h9b⟩:=HFF.out;have f4:Wn.cell? ⟨w.heap.size,4,none⟩=some (.slice a4 img.length c4):=(aC HX.out 4).trans (congrArg some ha4);have f5:Wn.cell? ⟨w.heap.size,5,none⟩=some (.int .u64 m.now):=aC HX.out 5;have f6:Wn.cell? ⟨w.heap.size,6,none⟩=some (.int .i64 m.sched):=aC HX.out 6;have f7:Wn.cell? ⟨w.heap.size,7,none⟩=some (.int .i64 m.next):=aC HX.out 7;have f10:Wn.cell? ⟨w.heap.size,10,none⟩=some (.int .i64 m.owner):=aC HX.out 10;have f8:Wn.cell? ⟨w.heap.size,8,none⟩=some (.slice a8a m.seats.length c8a):=(aC HX.out 8).trans (congrArg some h8a);have f9:Wn.cell? ⟨w.heap.size,9,none⟩=some (.slice a9a m.arr.length c9a):=(aC HX.out 9).trans (congrArg some h9a);have g4:Wn.cell? ⟨w.heap.size + 1,4,none⟩=some (.slice a4 img.length c4):=(aC HY.out 4).trans (congrArg some (hv4.trans ha4));have g5:Wn.cell? ⟨w.heap.size + 1,5,none⟩=some (.int .u64 m.now):=aC HY.out 5;have g6:Wn.cell? ⟨w.heap.size + 1,6,none⟩=some (.int .i64 m.sched):=aC HY.out 6;have g7:Wn.cell? ⟨w.heap.size + 1,7,none⟩=some (.int .i64 m.next):=aC HY.out 7;have g10:Wn.cell? ⟨w.heap.size + 1,10,none⟩=some (.int .i64 m.owner):=aC HY.out 10;have g8:Wn.cell? ⟨w.heap.size + 1,8,none⟩=some (.slice a8b m.seats.length c8b):=(aC HY.out 8).trans (congrArg some h8b);have g9:Wn.cell? ⟨w.heap.size + 1,9,none⟩=some (.slice a9b m.arr.length c9b):=(aC HY.out 9).trans (congrArg some h9b);clear ha4 hv4 h8a h9a h8b h9b HFF;dsimp only;repeat' (first|go_skip|go_values|go_skip|go_guarded|refine wg ?_|go_step|go_upon)
 clear f4 f5 f6 f7 f8 f9 f10 g4 g5 g6 g7 g8 g9 g10;go_loopw [6] (fun iv wr=> EqR w (aS ya m) (aS yb m) img.length iv wr) (fun iv _=> img.length - (intOf iv).toNat)
 case atStart=> exact ⟨0,Nat.zero_le _,rfl,HX,HY,HB⟩
 case round=>
  clear HX HY HB;obtain ⟨k,hk,rfl,HX,HY,HB⟩:=hrel;by_cases hkl:k<img.length
  · have e1:decide ((k:Int)<(img.length:Int))=true:=by simp;omega
    have i0:(0:Int)≤(k:Int):=by omega
    have i1:(k:Int)<(img.length:Int):=by omega
    obtain ⟨ai,ci,hai,hz1,hz2,hnil|⟨b,off,rfl,hbl,hcl⟩⟩:=HIM.out
    · rw [hnil] at hkl;exact absurd hkl (Nat.not_lt_zero _)
    obtain ⟨r,hr⟩:∃ r,img[k]? =some r:=⟨_,List.getElem?_eq_getElem hkl⟩
    obtain ⟨u,hu,hrd⟩:=hcl k r hr;have HRD:=hU hrd;obtain ⟨ra,rc,rfl,_,_⟩:=hrd;have HEA:=hU hai;have HEB:Hid (yb.im=.slice (some ⟨b,off,none⟩) img.length ci):=hU (HIE.out.trans hai);have HCU:Hid (∀ W,Below w.heap.size w W→W.cell? ⟨b,off + k,none⟩=some (.slice ra r.length rc)):=hU (fun W hb=> (hb.cell (p:=⟨b,_,none⟩) hbl).trans hu);clear hcl hai hr hu;have f1:wr.cell? ⟨w.heap.size,4,none⟩=some (.slice (some ⟨b,off,none⟩) img.length ci):=(aC HX.out 4).trans (congrArg some HEA.out);repeat' (first|go_skip|go_values|go_skip|go_guarded|refine wg ?_|go_step|go_upon)
    clear f1 e1;have hSS:∀ W,Below wr.heap.size wr W→W.cell? ⟨w.heap.size,4,none⟩=some (.slice (some ⟨b,off,none⟩) img.length ci)∧W.cell? ⟨w.heap.size + 1,4,none⟩=some (.slice (some ⟨b,off,none⟩) img.length ci)∧W.cell? ⟨b,off + k,none⟩=some (.slice ra r.length rc):=fun W hb=> ⟨(aC (nB hb HX).out 4).trans (congrArg some HEA.out),(aC (nB hb HY).out 4).trans (congrArg some HEB.out),HCU.out W (HB.out.trans (hb.mono HB.out.size))⟩
    have HSS:=hU hSS;clear hSS;refine wp_region_noPanic ?_;refine go0 (S:=fun W=> W.cell? ⟨w.heap.size,4,none⟩=some (.slice (some ⟨b,off,none⟩) img.length ci)∧W.cell? ⟨w.heap.size + 1,4,none⟩=some (.slice (some ⟨b,off,none⟩) img.length ci)∧W.cell? ⟨b,off + k,none⟩=some (.slice ra r.length rc)) [] (HSS.out _ bel) fun hS=> ?_;obtain ⟨Wd,hWd⟩:=exW wr.drew;have hbd:=dW hWd;rw [hWd] at hS ⊢;clear hWd;refine tp 0 ?_;(try simp only [aF])
    refine tl 1 ?_;(try simp only [aF])
    refine tp 2 ?_;(try simp only [aF])
    refine tp 3 ?_;(try simp only [aF])
    refine tl 4 ?_;(try simp only [aF])
    refine tp 5 ?_;(try simp only [aF])
    refine tl 6 ?_;(try simp only [aF])
    refine tp 7 ?_;(try simp only [aF])
    refine tp 8 ?_;(try simp only [aF])
    refine tl 9 ?_;(try simp only [aF])
    clear hS;refine ro 10 fun K hK=> ?_;refine wantY (by rfl) ?_;go_simp;have hbw:=HB.out.trans (hbd.mono HB.out.size);refine (ETexts _ r _ (HRD.out.below hbw)).mono ?_;rintro er Wn ⟨rfl,hb⟩;have hbb:=hbd.trans (hb.mono hbd.size);clear hb hbd hbw;dsimp only;refine nx hK (HSS.out _ hbb) fun hS=> ?_;clear hK K;(try simp only [aF])
    refine tp 11 ?_;(try simp only [aF])
    refine aZ (by kernel_rfl) (NoPanic.normal ?_) _;clear hS;refine sg ?_;intros;exact ⟨⟨k + 1,by omega,by go_num,nB hbb HX,nB hbb HY,nW hbb HB⟩,by simp [intOf];omega⟩
  · obtain rfl:k=img.length:=by omega
    have e1:decide ((img.length:Int)<(img.length:Int))=false:=by simp
    obtain ⟨al,cl,hal,_⟩:=HSH4.out;have f1:wr.cell? ⟨w.heap.size,4,none⟩=some (.slice al img.length cl):=(aC HX.out 4).trans (congrArg some hal);repeat' (first|go_skip|go_values|go_skip|go_guarded|refine wg ?_|go_step|go_upon)
    clear f1 e1 hal;go_loopw [8] (fun iv wr=> EqR w (aS ya m) (aS yb m) m.seats.length iv wr) (fun iv _=> m.seats.length - (intOf iv).toNat)
    case atStart=> exact ⟨0,Nat.zero_le _,rfl,HX,HY,HB⟩
    case round=>
     clear HX HY HB;obtain ⟨k,hk,rfl,HX,HY,HB⟩:=hrel;by_cases hkl:k<m.seats.length
     · have e1:decide ((k:Int)<(m.seats.length:Int))=true:=by simp;omega
       have i0:(0:Int)≤(k:Int):=by omega
       have i1:(k:Int)<(m.seats.length:Int):=by omega
       obtain ⟨s,hs⟩:∃ s,m.seats[k]? =some s:=⟨_,List.getElem?_eq_getElem hkl⟩
       obtain ⟨xa,hxa,hxsa,hla⟩:=H1.out.seat hs;have HLa:=hU hla;have hela:=H1.out.se.1;obtain ⟨aa,ca,hsea,_,_⟩:=hela.shape;rw [hsea] at hela;obtain ⟨ga,offa,hgaa,hgla,hca⟩:=hela.elem.2.2.2 k xa hxa;subst hgaa;rw [H1.out.len.1] at hsea;have HEA:=hU hsea;have HCa:Hid (∀ W,Below w.heap.size w W→∀ j u,(aY xa.y s)[j]? =some u→W.cell? ⟨ga,offa + k * 19 + j,none⟩=some u):=hU (fun W hb j u hj=> hca W hb j u (by rw [show SB.cells xa=aY xa.y s by unfold SB.cells;rw [hxsa]];exact hj));clear hxa hxsa hla hela hgla hca hsea;obtain ⟨xb,hxb,hxsb,hlb⟩:=H2.out.seat hs;have HLb:=hU hlb;have helb:=H2.out.se.1;obtain ⟨ab,cb,hseb,_,_⟩:=helb.shape;rw [hseb] at helb;obtain ⟨gb,offb,hgab,hglb,hcb⟩:=helb.elem.2.2.2 k xb hxb;subst hgab;rw [H2.out.len.1] at hseb;have HEB:=hU hseb;have HCb:Hid (∀ W,Below w.heap.size w W→∀ j u,(aY xb.y s)[j]? =some u→W.cell? ⟨gb,offb + k * 19 + j,none⟩=some u):=hU (fun W hb j u hj=> hcb W hb j u (by rw [show SB.cells xb=aY xb.y s by unfold SB.cells;rw [hxsb]];exact hj));clear hxb hxsb hlb helb hglb hcb hseb;clear hs;have f1:wr.cell? ⟨w.heap.size,8,none⟩=some (.slice (some ⟨ga,offa,none⟩) m.seats.length ca):=(aC HX.out 8).trans (congrArg some HEA.out);repeat' (first|go_skip|go_values|go_skip|go_guarded|refine wg ?_|go_step|go_upon)
       clear f1 e1;have hSS:∀ W,Below wr.heap.size wr W→W.cell? ⟨w.heap.size,8,none⟩=some (.slice (some ⟨ga,offa,none⟩) m.seats.length ca)∧W.cell? ⟨w.heap.size + 1,8,none⟩=some (.slice (some ⟨gb,offb,none⟩) m.seats.length cb)∧(∀ j u,(aY xa.y s)[j]? =some u→W.cell? ⟨ga,offa + k * 19 + j,none⟩=some u)∧(∀ j u,(aY xb.y s)[j]? =some u→W.cell? ⟨gb,offb + k * 19 + j,none⟩=some u):=fun W hb=> ⟨(aC (nB hb HX).out 8).trans (congrArg some HEA.out),(aC (nB hb HY).out 8).trans (congrArg some HEB.out),HCa.out W (HB.out.trans (hb.mono HB.out.size)),HCb.out W (HB.out.trans (hb.mono HB.out.size))⟩
       have HSS:=hU hSS;clear hSS;refine wp_region_noPanic ?_;refine go0 (S:=fun W=> W.cell? ⟨w.heap.size,8,none⟩=some (.slice (some ⟨ga,offa,none⟩) m.seats.length ca)∧W.cell? ⟨w.heap.size + 1,8,none⟩=some (.slice (some ⟨gb,offb,none⟩) m.seats.length cb)∧(∀ j u,(aY xa.y s)[j]? =some u→W.cell? ⟨ga,offa + k * 19 + j,none⟩=some u)∧(∀ j u,(aY xb.y s)[j]? =some u→W.cell? ⟨gb,offb + k * 19 + j,none⟩=some u)) [] (HSS.out _ bel) fun hS=> ?_;obtain ⟨Wd,hWd⟩:=exW wr.drew;have hbd:=dW hWd;rw [hWd] at hS ⊢;clear hWd;refine tp 0 ?_;(try simp only [aF])
       refine tl 1 ?_;(try simp only [aF])
       refine tp 2 ?_;(try simp only [aF])
       refine tp 3 ?_;(try simp only [aF])
       refine tv 4 (.agg (aY xa.y s)) (fun W hSW=> aR rfl rfl (cA dN rfl hSW.2.2.1)) ?_;(try simp only [aF])
       refine tp 5 ?_;(try simp only [aF])
       refine tl 6 ?_;(try simp only [aF])
       refine tp 7 ?_;(try simp only [aF])
       refine tp 8 ?_;(try simp only [aF])
       refine tv 9 (.agg (aY xb.y s)) (fun W hSW=> aR rfl rfl (cA dN rfl hSW.2.2.2)) ?_;(try simp only [aF])
       clear hS;refine ro 10 fun K hK=> ?_;refine wantY (by rfl) ?_;go_simp;have hbw:=HB.out.trans (hbd.mono HB.out.size);refine (SameSeat _ _ s _ ⟨_,_,rfl,HLa.out.below hbw⟩ ⟨_,_,rfl,HLb.out.below hbw⟩).mono ?_;rintro er Wn ⟨rfl,hb⟩;have hbb:=hbd.trans (hb.mono hbd.size);clear hb hbd hbw;dsimp only;refine nx hK (HSS.out _ hbb) fun hS=> ?_;clear hK K;(try simp only [aF])
       refine tp 11 ?_;(try simp only [aF])
       refine aZ (by kernel_rfl) (NoPanic.normal ?_) _;clear hS;refine sg ?_;intros;exact ⟨⟨k + 1,by omega,by go_num,nB hbb HX,nB hbb HY,nW hbb HB⟩,by simp [intOf];omega⟩
     · obtain rfl:k=m.seats.length:=by omega
       have e1:decide ((m.seats.length:Int)<(m.seats.length:Int))=false:=by simp
       obtain ⟨al,cl,hal,_⟩:=HSH8.out;have f1:wr.cell? ⟨w.heap.size,8,none⟩=some (.slice al m.seats.length cl):=(aC HX.out 8).trans (congrArg some hal);repeat' (first|go_skip|go_values|go_skip|go_guarded|refine wg ?_|go_step|go_upon)
       clear f1 e1 hal;go_loopw [10] (fun iv wr=> EqR w (aS ya m) (aS yb m) m.arr.length iv wr) (fun iv _=> m.arr.length - (intOf iv).toNat)
       case atStart=> exact ⟨0,Nat.zero_le _,rfl,HX,HY,HB⟩
       case round=>
        clear HX HY HB;obtain ⟨k,hk,rfl,HX,HY,HB⟩:=hrel;by_cases hkl:k<m.arr.length
        · have e1:decide ((k:Int)<(m.arr.length:Int))=true:=by simp;omega
          have i0:(0:Int)≤(k:Int):=by omega
          have i1:(k:Int)<(m.arr.length:Int):=by omega
          obtain ⟨s,hs⟩:∃ s,m.arr[k]? =some s:=⟨_,List.getElem?_eq_getElem hkl⟩
          obtain ⟨xa,hxa,hxsa⟩:∃ x,ya.la[k]? =some x∧x.l=s:=by
           have h0:=hs;rw [← H1.out.al,List.getElem?_map] at h0;exact Option.map_eq_some_iff.1 h0
          have hla:=H1.out.ar.2 xa (List.mem_of_getElem? hxa);rw [hxsa] at hla;have HLa:=hU hla;obtain ⟨eaa,eca,heva,_,_⟩:=hla.shape;rw [heva] at HLa;have hela:=H1.out.ar.1;obtain ⟨aa,ca,hsea,_,_⟩:=hela.shape;rw [hsea] at hela;obtain ⟨ga,offa,hgaa,hgla,hca⟩:=hela.elem.2.2.2 k xa hxa;subst hgaa;rw [H1.out.len.2] at hsea;have HEA:=hU hsea
          have HCa:Hid (∀ W,Below w.heap.size w W→W.cell? ⟨ga,offa + k,none⟩=some (.slice eaa s.length eca)):=hU (fun W hb=> by
           have:=hca W hb 0 _ rfl
           rw [Nat.mul_one,Nat.add_zero] at this;exact this.trans (congrArg some heva))
          clear hxa hxsa hla hela hgla hca hsea heva
          obtain ⟨xb,hxb,hxsb⟩:∃ x,yb.la[k]? =some x∧x.l=s:=by
           have h0:=hs;rw [← H2.out.al,List.getElem?_map] at h0;exact Option.map_eq_some_iff.1 h0
          have hlb:=H2.out.ar.2 xb (List.mem_of_getElem? hxb);rw [hxsb] at hlb;have HLb:=hU hlb;obtain ⟨eab,ecb,hevb,_,_⟩:=hlb.shape;rw [hevb] at HLb;have helb:=H2.out.ar.1;obtain ⟨ab,cb,hseb,_,_⟩:=helb.shape;rw [hseb] at helb;obtain ⟨gb,offb,hgab,hglb,hcb⟩:=helb.elem.2.2.2 k xb hxb;subst hgab;rw [H2.out.len.2] at hseb;have HEB:=hU hseb
          have HCb:Hid (∀ W,Below w.heap.size w W→W.cell? ⟨gb,offb + k,none⟩=some (.slice eab s.length ecb)):=hU (fun W hb=> by
           have:=hcb W hb 0 _ rfl
           rw [Nat.mul_one,Nat.add_zero] at this;exact this.trans (congrArg some hevb))
          clear hxb hxsb hlb helb hglb hcb hseb hevb;clear hs;have f1:wr.cell? ⟨w.heap.size,9,none⟩=some (.slice (some ⟨ga,offa,none⟩) m.arr.length ca):=(aC HX.out 9).trans (congrArg some HEA.out);repeat' (first|go_skip|go_values|go_skip|go_guarded|refine wg ?_|go_step|go_upon)
          clear f1 e1;have hSS:∀ W,Below wr.heap.size wr W→W.cell? ⟨w.heap.size,9,none⟩=some (.slice (some ⟨ga,offa,none⟩) m.arr.length ca)∧W.cell? ⟨w.heap.size + 1,9,none⟩=some (.slice (some ⟨gb,offb,none⟩) m.arr.length cb)∧W.cell? ⟨ga,offa + k,none⟩=some (.slice eaa s.length eca)∧W.cell? ⟨gb,offb + k,none⟩=some (.slice eab s.length ecb):=fun W hb=> ⟨(aC (nB hb HX).out 9).trans (congrArg some HEA.out),(aC (nB hb HY).out 9).trans (congrArg some HEB.out),HCa.out W (HB.out.trans (hb.mono HB.out.size)),HCb.out W (HB.out.trans (hb.mono HB.out.size))⟩
          have HSS:=hU hSS;clear hSS;refine wp_region_noPanic ?_;refine go0 (S:=fun W=> W.cell? ⟨w.heap.size,9,none⟩=some (.slice (some ⟨ga,offa,none⟩) m.arr.length ca)∧W.cell? ⟨w.heap.size + 1,9,none⟩=some (.slice (some ⟨gb,offb,none⟩) m.arr.length cb)∧W.cell? ⟨ga,offa + k,none⟩=some (.slice eaa s.length eca)∧W.cell? ⟨gb,offb + k,none⟩=some (.slice eab s.length ecb)) [] (HSS.out _ bel) fun hS=> ?_;obtain ⟨Wd,hWd⟩:=exW wr.drew;have hbd:=dW hWd;rw [hWd] at hS ⊢;clear hWd;refine tp 0 ?_;(try simp only [aF])
          refine tl 1 ?_;(try simp only [aF])
          refine tp 2 ?_;(try simp only [aF])
          refine tp 3 ?_;(try simp only [aF])
          refine tl 4 ?_;(try simp only [aF])
          refine tp 5 ?_;(try simp only [aF])
          refine tl 6 ?_;(try simp only [aF])
          refine tp 7 ?_;(try simp only [aF])
          refine tp 8 ?_;(try simp only [aF])
          refine tl 9 ?_;(try simp only [aF])
          clear hS;refine ro 10 fun K hK=> ?_;refine wantY (by rfl) ?_;go_simp;have hbw:=HB.out.trans (hbd.mono HB.out.size);refine (EStamps _ _ s _ (HLa.out.below hbw) (HLb.out.below hbw)).mono ?_;rintro er Wn ⟨rfl,hb⟩;have hbb:=hbd.trans (hb.mono hbd.size);clear hb hbd hbw;dsimp only;refine nx hK (HSS.out _ hbb) fun hS=> ?_;clear hK K;(try simp only [aF])
          refine tp 11 ?_;(try simp only [aF])
          refine aZ (by kernel_rfl) (NoPanic.normal ?_) _;clear hS;refine sg ?_;intros;exact ⟨⟨k + 1,by omega,by go_num,nB hbb HX,nB hbb HY,nW hbb HB⟩,by simp [intOf];omega⟩
        · obtain rfl:k=m.arr.length:=by omega
          have e1:decide ((m.arr.length:Int)<(m.arr.length:Int))=false:=by simp
          obtain ⟨al,cl,hal,_⟩:=HSH9.out;have f1:wr.cell? ⟨w.heap.size,9,none⟩=some (.slice al m.arr.length cl):=(aC HX.out 9).trans (congrArg some hal);repeat' (first|go_skip|go_values|go_skip|go_guarded|refine wg ?_|go_step|go_upon)
          clear f1 e1 hal;go_ret;exact cF rfl HB.out
theorem scells_at {y:Lay} {s:dU} {j:Nat} {u:Value} (h:(aJ y s.k)[j]? =some u):(aY y s)[j]? =some u:=by
 have hj:j<17:=(Array.getElem?_eq_some_iff.1 h).1;unfold aJ at h;unfold aY;rcases j with _|_|_|_|_|_|_|_|_|_|_|_|_|_|_|_|_|j <;> first|exact h|(exfalso;omega)
theorem onesPcG {W:World} {vp vw vc:Value} {P:Pl.fH} (h:iF W vp vw vc P):∀ u ∈ (Value.agg (eV vp vw vc P.fr)).cells.toList,u.oneCell'=true:=by
 obtain ⟨h1,h2,h3⟩:=qPt h;intro u hu;simp only [Value.cells,eV,List.mem_cons,List.not_mem_nil,or_false] at hu;rcases hu with rfl|rfl|rfl|rfl <;> first|rfl|assumption
theorem LHyperParts (vp vw vc im:Value) (P:Pl.fH) (l:List (List ByteArray)) (a b2:Int) (w:World) (h:iF w vp vw vc P) (hfr:P.fr≤9223372036854775807) (him:tP w im l) (hl:∀ r ∈ l,r.length≤8796093022207) (hT:Tab w):
 Calls Tryz.prog 9 #[.agg #[vp,.int .i64 P.fr,vw,vc,im,.int .i64 a,.int .i64 b2]] w (aN (.bool true) w):=by
 obtain ⟨aw,cw,rfl⟩:=h.wins;obtain ⟨ai,ci,rfl,_⟩:=id him;obtain ⟨Wn,hW0,hb0,HI⟩:=nb1 (W:=w) (.cells #[vp,.int .i64 P.fr,.slice aw P.ws.length cw,vc,.slice ai l.length ci,.int .i64 a,.int .i64 b2] 92) rfl;have HB:=hU hb0;obtain ⟨b3,hab3,hbz3⟩:=nbz HB;have hb3:=nlt HI hab3;obtain ⟨W3,hW3,hba3,HZ3⟩:=nb1 (W:=Wn) (.cells #[.slice none 0 0,.int .i64 0,.slice none 0 0,.slice none 0 0] 53) hab3;have HT:=hU (fun W (h:Below w.heap.size w W)=> hT.below h);have HPL:=hU (fun W (hb:Below w.heap.size w W)=> h.below hb);have HIM:=hU (fun W (hb:Below w.heap.size w W)=> him.below hb);have HBE:=hU (fun W (hb:Below w.heap.size w W)=> qNg vp (.slice aw P.ws.length cw) vc (.slice ai l.length ci) P l W (h.below hb) hfr (him.below hb) hl);have HO3:=hU (onesPcG h);clear hb0 h him hl hT;go_in
 repeat' (first
  |(rw [hW0];clear hW0)
  |(rw [hW3,hab3];clear hW3)
  |(refine aE (t:=53) (v:=.agg (eV vp (.slice aw P.ws.length cw) vc P.fr)) rfl rfl rfl (cB zO HI.out (by unfold eV;simp) rfl) ?_)
  |(refine sN 53 (.agg (eV vp (.slice aw P.ws.length cw) vc P.fr)) 0 (eV vp (.slice aw P.ws.length cw) vc P.fr) zO.size HZ3.out HO3.out fun Wn hp=> ?_
    have hbb:=Below.put hba3 hp (Nat.le_of_eq hab3);replace HI:=nB hbb HI;replace HB:=nW hbb HB;have HP:=pA hp;clear hbb hp hba3 HZ3 HO3;have f4:Wn.cell? ⟨w.heap.size,4,none⟩=some (.slice ai l.length ci):=aC HI.out 4;have f5:Wn.cell? ⟨w.heap.size,5,none⟩=some (.int .i64 a):=aC HI.out 5;have f6:Wn.cell? ⟨w.heap.size,6,none⟩=some (.int .i64 b2):=aC HI.out 6)
  |go_values|go_skip|go_guarded|refine wg ?_|go_step|go_upon)
 clear f4 f5 f6 HI;refine (qVa _ (HT.out _ HB.out)).mono ?_;rintro er Wn ⟨rfl,hb⟩;replace HP:=nB hb HP;replace HB:=nW hb HB;clear hb;dsimp only;refine sg ?_;intros;refine (HFew (.slice ai l.length ci) l _ (HIM.out _ HB.out)).mono ?_;rintro er Wx ⟨rfl,rfl⟩;obtain ⟨sm,hsm⟩:∃ sm,sW l=sm:=⟨_,rfl⟩
 rw [hsm];dsimp only;repeat' (first|(refine aE (t:=53) (v:=.agg (eV vp (.slice aw P.ws.length cw) vc P.fr)) rfl rfl rfl (aD zO HP.out rfl) ?_)|go_values|go_skip|go_guarded|refine wg ?_|go_step|go_upon)
 refine (HBE.out _ HB.out).mono ?_;rintro er Wn hg;obtain ⟨c,ck,rfl,hcs,hon,hb,hgo⟩:=hg.cells;clear hg HBE;replace HP:=nB hb HP;replace HB:=nW hb HB;have HCS:=hU hcs;have HON:=hU hon;have HGO:=hU hgo;clear hb hcs hon hgo;obtain ⟨b5,hab5,hbz5⟩:=nbz HB;have hb5:=nlt HP hab5;obtain ⟨Wo,hWo⟩:∃ Wo,Wo=Wn:=⟨_,rfl⟩
 rw [← hWo] at HGO;have HR:Hid (Below Wo.heap.size Wo Wn):=hU (by rw [hWo];exact Below.refl _ _);clear hWo;obtain ⟨W5,hW5,hba5,HZ5⟩:=nb1 (W:=Wn) (.cells zSy 61) hab5;dsimp only
 have hcase:sm=false∨sm=true∧ck ≠ 0∨sm=true∧ck=0∧a<0∨sm=true∧ck=0∧¬ a<0∧b2<0∨sm=true∧ck=0∧¬ a<0∧¬ b2<0∧150<a∨sm=true∧ck=0∧¬ a<0∧¬ b2<0∧¬ 150<a∧150<b2∨sm=true∧ck=0∧¬ a<0∧¬ b2<0∧¬ 150<a∧¬ 150<b2:=by
  cases sm
  · exact .inl rfl
  · by_cases h1:ck=0
    · by_cases h2:a<0
      · exact .inr (.inr (.inl ⟨rfl,h1,h2⟩))
      · by_cases h3:b2<0
        · exact .inr (.inr (.inr (.inl ⟨rfl,h1,h2,h3⟩)))
        · by_cases h4:150<a
          · exact .inr (.inr (.inr (.inr (.inl ⟨rfl,h1,h2,h3,h4⟩))))
          · by_cases h5:150<b2
            · exact .inr (.inr (.inr (.inr (.inr (.inl ⟨rfl,h1,h2,h3,h4,h5⟩)))))
            · exact .inr (.inr (.inr (.inr (.inr (.inr ⟨rfl,h1,h2,h3,h4,h5⟩)))))
    · exact .inr (.inl ⟨rfl,h1⟩)
 rcases hcase with rfl|⟨rfl,hck⟩|⟨rfl,rfl,hn⟩|⟨rfl,rfl,hn,hw⟩|⟨rfl,rfl,hn,hw,hp0⟩|⟨rfl,rfl,hn,hw,hp0,hp1⟩|⟨rfl,rfl,hn,hw,hp0,hp1⟩
 case' inr.inl=> have e1:(ck !=0)=true:=by simpa using hck
 case' inr.inr.inl=> have e2:decide (a<0)=true:=by simpa using hn
 case' inr.inr.inr.inl=>
  have e2:decide (a<0)=false:=by simpa using hn
  have e3:decide (b2<0)=true:=by simpa using hw
 case' inr.inr.inr.inr.inl=>
  have e2:decide (a<0)=false:=by simpa using hn
  have e3:decide (b2<0)=false:=by simpa using hw
  have e4:decide (150<a)=true:=by simpa using hp0
 case' inr.inr.inr.inr.inr.inl=>
  have e2:decide (a<0)=false:=by simpa using hn
  have e3:decide (b2<0)=false:=by simpa using hw
  have e4:decide (150<a)=false:=by simpa using hp0
  have e5:decide (150<b2)=true:=by simpa using hp1
 case' inr.inr.inr.inr.inr.inr=>
  have e2:decide (a<0)=false:=by simpa using hn
  have e3:decide (b2<0)=false:=by simpa using hw
  have e4:decide (150<a)=false:=by simpa using hp0
  have e5:decide (150<b2)=false:=by simpa using hp1
 all_goals repeat' (first
  |go_skip
  |(rw [hW5,hab5];clear hW5)
  |(refine aK (t:=61) (v:=.agg c) (off:=0) (new:=c) rfl rfl rfl rfl dZ.size HZ5.out HCS.out (show 0 + 11≤11 by decide) HON.out (eD (by rw [show (Value.agg c).cells.size=11 from HCS.out];rfl)) ?_;intro Wn hp
    have hbb:=Below.put hba5 hp (Nat.le_of_eq hab5);replace HP:=nB hbb HP;replace HR:=hU (HR.out.trans (hbb.mono HR.out.size));replace HB:=nW hbb HB;have HQ:=pA hp;clear hbb hp hba5 HZ5 HON HCS)
  |go_values|go_skip|go_guarded|refine wg ?_|go_step|go_upon)
 rotate_left 1
 · go_ret;exact cF rfl HB.out
 · go_ret;exact cF rfl HB.out
 · go_ret;exact cF rfl HB.out
 · go_ret;exact cF rfl HB.out
 · go_ret;exact cF rfl HB.out
 · go_ret;exact cF rfl HB.out
 clear e2 e3 e4 e5;obtain ⟨hck,y,rfl,hs,hv⟩:=HGO.out rfl;obtain ⟨hgd,hwd⟩:=qN hck (qOx hsm);obtain ⟨m0,hm0⟩:∃ m0,gE P l=m0:=⟨_,rfl⟩
 rw [hm0] at HQ hs hgd hwd;rw [hm0];obtain ⟨i,rfl⟩:=Int.eq_ofNat_of_zero_le (show 0≤a by omega);obtain ⟨n,rfl⟩:=Int.eq_ofNat_of_zero_le (show 0≤b2 by omega);have HY:=hU (hs.below HR.out);have HI2:Hid (∀ W,Below w.heap.size w W→tP W y.im l):=hU (by rw [hv.2.2.2];exact HIM.out);obtain ⟨hg2,hw2⟩:=hgd.run hwd (k:=i) (by omega);have E1:=hU (fun W h t=> HRun y m0 0 i (i:Int) W h hgd hwd (by omega) (by omega) t);have E2:=hU (fun y1 W h t=> HRun y1 (jO i m0) (0 + 15 * i) n (n:Int) W h hg2 hw2 (by omega) (by omega) t);have e3:=fun W h t=> HRun y m0 0 (i + n) ((i:Int) + (n:Int)) W h hgd hwd (by omega) (by omega) t;rw [qPl] at e3;have E3:=hU e3;have E4:=hU (fun ya yb W=> ESys ya yb (jO n (jO i m0)) l W);have hw:IntKind.i64.wrap ((i:Int) + (n:Int))=(i:Int) + (n:Int):=by rw [IntKind.wrap_i64];omega
 clear e3 hg2 hw2 hgd hwd hm0 hs hv hck HGO HR HP;refine wp_region_noPanic ?_;refine go0 (S:=fun W=> W.heap[b5]? =some (.cells (aS y m0) 61 (0,0))) [] HQ.out fun hS=> ?_;obtain ⟨Wd,hWd⟩:=exW Wn.drew;have hbd:=dW hWd;replace HQ:=nB hbd HQ;replace HY:=hU (HY.out.below hbd);replace HB:=nW hbd HB;rw [hWd] at hS ⊢;clear hWd hbd;refine tv 0 (.agg (aS y m0)) (fun W hSW=> aR rfl rfl (aD dZ hSW rfl)) ?_;(try simp only [aF])
 refine tp 1 ?_;(try simp only [aF])
 refine tp 3 ?_;(try simp only [aF])
 refine tv 5 (.agg (aS y m0)) (fun W hSW=> aR rfl rfl (aD dZ hSW rfl)) ?_;(try simp only [aF])
 refine tp 6 ?_;(try simp only [aF])
 refine tp 7 ?_;(try simp only [aF])
 refine tp 8 ?_;(try simp only [aF])
 refine ro 2 fun K hK=> ?_;refine wantY (by rfl) ?_;go_simp;refine (E1.out _ HY.out (HT.out _ HB.out)).mono ?_;rintro er Wn ⟨y1,rfl,hs1,hv1,hb⟩;replace HQ:=nB hb HQ;replace HB:=nW hb HB;replace HY:=hU (HY.out.below hb);have HS1:=hU hs1;have HV1:=hU hv1;clear hs1 hv1;clear hb;dsimp only;try clear hS
 refine nx hK HQ.out fun hS=> ?_;clear hK K;(try simp only [aF])
 refine ro 4 fun K hK=> ?_;refine wantY (by rfl) ?_;go_simp;refine (E2.out y1 _ HS1.out (HT.out _ HB.out)).mono ?_;rintro er Wn ⟨y2,rfl,hs2,hv2,hb⟩;replace HQ:=nB hb HQ;replace HB:=nW hb HB;replace HY:=hU (HY.out.below hb);have HS2:=hU hs2;have HV2:=hU hv2;clear hs2 hv2 HS1;clear hb;dsimp only;try clear hS
 refine nx hK HQ.out fun hS=> ?_;clear hK K;(try simp only [aF])
 refine ro 9 fun K hK=> ?_;refine wantY (by rfl) ?_;go_simp;refine (E3.out _ HY.out (HT.out _ HB.out)).mono ?_;rintro er Wn ⟨y3,rfl,hs3,hv3,hb⟩;replace HQ:=nB hb HQ;replace HB:=nW hb HB;replace HS2:=hU (HS2.out.below hb);have HS3:=hU hs3;have HV3:=hU hv3;clear hs3 hv3 HY;clear hb;dsimp only;try clear hS
 refine nx hK HQ.out fun hS=> ?_;clear hK K;(try simp only [aF])
 have HVE:Hid (y3.vp=y2.vp∧y3.vw=y2.vw∧y3.vc=y2.vc∧y3.im=y2.im):=hU ⟨HV3.out.1.trans (HV2.out.1.trans HV1.out.1).symm,HV3.out.2.1.trans (HV2.out.2.1.trans HV1.out.2.1).symm,HV3.out.2.2.1.trans (HV2.out.2.2.1.trans HV1.out.2.2.1).symm,HV3.out.2.2.2.trans (HV2.out.2.2.2.trans HV1.out.2.2.2).symm⟩;have HIE:Hid (y.im=y2.im):=hU (HV2.out.2.2.2.trans HV1.out.2.2.2).symm;refine ro 10 fun K hK=> ?_;refine wantY (by rfl) ?_;go_simp;refine (E4.out y2 y3 _ HS2.out HS3.out HVE.out (by rw [← HIE.out];exact HI2.out _ HB.out)).mono ?_;rintro er Wn ⟨rfl,hb⟩;replace HQ:=nB hb HQ;replace HB:=nW hb HB;clear hb;dsimp only;try clear hS
 refine nx hK HQ.out fun hS=> ?_;clear hK K;(try simp only [aF])
 refine tp 11 ?_;(try simp only [aF])
 refine aZ (by kernel_rfl) (NoPanic.normal ?_) _;clear hS;refine sg ?_;intros;go_ret;exact cF rfl HB.out
end Hy
end Go.Proofs.YtfncknignkndiaaGreatDoor
namespace Go.Proofs.YtfncknignkndiaaGreatDoor
open Go.ChangeShapes Go.WideShapes Go.ChangeAt Go.RowKit Go.Joins Go.Deep KR Kn
namespace Hy
section
variable {H:Type} {enc:TypeId × Value→H} {w:World} {base b:Nat} {sp:Nat→Bool} {hd:Bool} {r:Reach}
theorem open_inHyperParts {v:Value} {d:DataW H} {p:List MemPlace} (hv:Value.okWide Tryz.prog w r base 92 v) (h:DataW.Trod enc Tryz.prog w b sp hd 92 v d p):
 ∃ vp vw vc im P l a b2,v=.agg #[vp,.int .i64 (Pl.fH.fr P),vw,vc,im,.int .i64 a,.int .i64 b2]∧iF w vp vw vc P∧P.fr≤9223372036854775807∧tP w im l∧(∀ y ∈ l,y=[]∨∃ m,y.length≤m∧m * 16 ∈ d.weights Tryz.prog 92)∧(Lit.int .i64 a).wf=true∧(Lit.int .i64 b2).wf=true:=by
 obtain ⟨cs,rfl,hsz⟩:=okWide_struct Tryz.underlying92 hv;rw [show Tryz.prog.cellsOf 92=7 by kernel_rfl] at hsz;obtain ⟨fuel,hf⟩:=h;obtain ⟨l0⟩:=cs;match l0,hsz with
 |[c0,c1,c2,c3,c4,c5,c6],_=>
  obtain ⟨xs,n,_,hx2,_,hlen,hge⟩:=DataW.trod_struct Tryz.underlying92 hf;have hx:xs.length=4:=hlen;have g0:DataW.trod enc Tryz.prog w b sp hd n 53 (([c0,c1,c2,c3,c4,c5,c6].drop 0).take (Tryz.prog.cellsOf 53))=xs[0]? :=hge 0 _ rfl;rw [List.getElem?_eq_getElem (by omega),show Tryz.prog.cellsOf 53=4 by kernel_rfl] at g0;have e0:DataW.trod enc Tryz.prog w b sp hd n 53 [c0,c1,c2,c3]=some (xs[0]'(by omega)):=g0;have g1:DataW.trod enc Tryz.prog w b sp hd n 54 (([c0,c1,c2,c3,c4,c5,c6].drop 4).take (Tryz.prog.cellsOf 54))=xs[1]? :=hge 1 _ rfl;rw [List.getElem?_eq_getElem (by omega),show Tryz.prog.cellsOf 54=1 by kernel_rfl] at g1;have e1:DataW.trod enc Tryz.prog w b sp hd n 54 [c4]=some (xs[1]'(by omega)):=g1;have g2:DataW.trod enc Tryz.prog w b sp hd n 3 (([c0,c1,c2,c3,c4,c5,c6].drop 5).take (Tryz.prog.cellsOf 3))=xs[2]? :=hge 2 _ rfl;rw [List.getElem?_eq_getElem (by omega),show Tryz.prog.cellsOf 3=1 by kernel_rfl] at g2;have e2:DataW.trod enc Tryz.prog w b sp hd n 3 [c5]=some (xs[2]'(by omega)):=g2;have g3:DataW.trod enc Tryz.prog w b sp hd n 3 (([c0,c1,c2,c3,c4,c5,c6].drop 6).take (Tryz.prog.cellsOf 3))=xs[3]? :=hge 3 _ rfl;rw [List.getElem?_eq_getElem (by omega),show Tryz.prog.cellsOf 3=1 by kernel_rfl] at g3;have e3:DataW.trod enc Tryz.prog w b sp hd n 3 [c6]=some (xs[3]'(by omega)):=g3;obtain ⟨P,rfl,hpl,hfr⟩:=qIh e0;obtain ⟨l,him,hwl⟩:=qEl e1;obtain ⟨a,rfl,w0⟩:=fI e2;obtain ⟨b2,rfl,w1⟩:=fI e3;obtain rfl:=(Prod.mk.inj hx2).1;refine ⟨_,_,_,_,P,l,_,_,rfl,hpl,hfr,him,fun y hy=> (hwl y hy).imp id (fun ⟨m,h1,h2⟩=> ⟨m,h1,?_⟩),w0,w1⟩;unfold DataW.weights;rw [Tryz.underlying92];dsimp only;refine DataW.weights_mem_each (j:=1) (t:=54) (d:=xs[1].1) (by rfl) ?_ _ h2;rw [List.getElem?_map,List.getElem?_eq_getElem (by omega)];rfl
end
end Hy
end Go.Proofs.YtfncknignkndiaaGreatDoor
namespace Go.Proofs.YtfncknignkndiaaGreatDoor.lawHyperParts
open Go.ChangeShapes Go.WideShapes Go.ChangeAt Go.RowKit
theorem contract (H:Type) (enc:TypeId × Value→H) (W:World) (base:Nat) (args:Array Value) (ds gs:List (DataW H)) (before:List MemPlace)
 (hval:∀ (j:Nat) t v,Tryz.f9.params[j]? =some t→args[j]? =some v→Value.okWide Tryz.prog W .any base t v)
 (hW:DataW.Whole enc Tryz.prog Tryz.f9.params.toList Rows.hyperPartsSpec.vars false W args.toList ds gs before) (hL:laidMetH Tryz.prog Rows.hyperPartsRow.laid W)
 (hr:(DataW.weightsEach Tryz.prog (Tryz.f9.params.toList ++ (OpenSpec.ofChange Rows.hyperPartsSpec).bare.plain.varTypes Tryz.prog) (ds ++ gs)).all (· ≤reachBytes)=true):
 Calls Tryz.prog 9 args W fun e W'=> ∃ v,e=.returned v∧Rows.hyperPartsSpec.post enc Tryz.prog Tryz.f9 false true false false W args v W':=by
 have hW':=hW;obtain ⟨p,q,hA0,hV,rfl,hfz,hnd⟩:=hW;have hA:DataW.TrodAll enc Tryz.prog W 0 (fun _=> true) true Tryz.f9.params.toList args.toList ds p:=hA0;rw [Tryz.params9] at hA hval;obtain ⟨v0,d0,rfl,rfl,h0⟩:=trodAll_one hA;obtain ⟨rfl,rfl⟩:=trodVars_none hV;obtain ⟨vp,vw,vc,im,P,l,a,b2,rfl,hpl,hfr,him,hwl,w0x,w1x⟩:=Hy.open_inHyperParts (hval 0 92 v0 rfl rfl) h0;have hsl:=Hy.qYc (j:=0) hr (by kernel_rfl) rfl hwl;refine (Hy.LHyperParts vp vw vc im P l a b2 W hpl hfr him hsl (xAo hL)).mono fun e W' ⟨he,hb⟩=> ?_;subst he;exact ⟨_,rfl,law_post (tb:=4) hW' rfl rfl rfl rfl (by kernel_rfl) Tryz.underlying4 qYd (by rw [Tryz.params9];decide +kernel) hb⟩
abbrev qQt:Array Value:=#[.agg #[.slice none 0 0,.int .i64 0,.slice none 0 0,.slice none 0 0,.slice none 0 0,.int .i64 0,.int .i64 0]]
theorem laid_met (os:Os):laidMet Tryz.prog Rows.hyperPartsRow.laid ((laidWorld os).forCall (fun _ _=> 0) ⟨#[],qQt,[]⟩).memory:=
 laidMet_of_run' 8 (by kernel_rfl) (by kernel_rfl)
theorem reads (os:Os) {H:Type} (enc:TypeId × Value→H):∃ places,DataW.whole enc Tryz.prog ((laidWorld os).forCall (fun _ _=> 0) ⟨#[],qQt,[]⟩).memory Tryz.f9.params.toList Rows.hyperPartsSpec.vars false qQt.toList 8=some ([.agg [.agg [.nil,.lit (.int .i64 0),.nil,.nil],.nil,.lit (.int .i64 0),.lit (.int .i64 0)]],[],places):=
 ⟨[],by kernel_rfl⟩
theorem lifted (os:Os) (started:os.Started) (H:Type) (enc:TypeId × Value→H) (F:Stop.Interp):
 ReturnsInHanded {} Tryz.checked os 9 .any ((OpenSpec.ofChange Rows.hyperPartsSpec).preRow enc Tryz.prog Tryz.f9 Rows.hyperPartsRow.domain false Rows.hyperPartsRow.laid) (((OpenSpec.ofChange Rows.hyperPartsSpec).at F).post enc Tryz.prog Tryz.f9 false true false false):=by
 obtain ⟨places,hx⟩:=reads os enc
 refine returnsInHanded_of_row (C:=Tryz.checked) (s:=OpenSpec.ofChange Rows.hyperPartsSpec) own started (by kernel_rfl) Tryz.func9
  (witness_row_at (enc:=enc) (C:=Tryz.checked) false (laidWorld os) qQt rfl (by kernel_rfl) (by kernel_rfl) (by kernel_rfl)
    (OpenSpec.preRow_of_cond 8 hx (by kernel_rfl) (fun k hk=> by cases hk) (by kernel_rfl) (laid_met os))) ?_
 intro W base args ds gs before hval hW _ hcond hr hL _ _;exact contract H enc W base args ds gs before hval hW hL hr
theorem j0:(Rows.hyperPartsRow.inPlace==Tryz.pinned.checked.prog.inPlace 9)=true:=by kernel_rfl
theorem j1:(Rows.hyperPartsRow.unfollowed==Tryz.pinned.checked.prog.unfollowed 9)=true:=by kernel_rfl
theorem j2:(Rows.hyperPartsRow.recurses==Tryz.pinned.checked.prog.recurses 9)=true:=by kernel_rfl
theorem j3:(Rows.hyperPartsRow.named==Tryz.pinned.checked.prog.varsNamed 9)=true:=by kernel_rfl
theorem facts:joinedFacts Tryz.pinned.checked.prog 9 Tryz.f9 (OpenSpec.ofChange Rows.hyperPartsSpec).bare Rows.hyperPartsRow=true:=by
 unfold joinedFacts;rw [j0,j1,j2,j3];kernel_rfl
theorem said:Rows.HyperPartsSaid:=
 OpenClaim.holds_of_cond 9 Tryz.f9 rfl rfl rfl rfl rfl rfl rfl ⟨rfl,rfl,rfl,rfl,rfl⟩ rfl rfl rfl rfl rfl (by kernel_rfl) Tryz.func9 facts
  (of_decide_eq_true (by kernel_rfl)) (by unfold Func.isWrapper;first|(rw [if_pos (by decide +kernel)];kernel_rfl)|(rw [if_neg (by decide +kernel)];exact ⟨rfl,rfl⟩))
  (fun os started H enc _ F=> by rw [OpenClaim.pre_eq_preRow];exact lifted os started H enc F)
theorem plain (f:FuncId) (fn:Func) (hf:Tryz.pinned.checked.prog.funcNamed "transom/transomlaw16.HyperParts" =some f) (hfn:Tryz.pinned.checked.prog.funcs[f]? =some fn):
 false=Tryz.pinned.checked.prog.looks []∧∀ (j:Nat) t,fn.params[j]? =some t→Tryz.pinned.checked.prog.wantsStandIn t=false:=by
 obtain rfl:f=9:=Option.some.inj ((show Tryz.prog.funcNamed "transom/transomlaw16.HyperParts" =some 9 by kernel_rfl).symm.trans hf)|>.symm
 obtain rfl:fn=Tryz.f9:=(Option.some.inj (Tryz.func9.symm.trans hfn)).symm;refine ⟨qYe,fun j t ht=> ?_⟩;have hm:=Array.mem_of_getElem? ht;rw [Tryz.params9] at hm;have hall:∀ t ∈ (#[92]:Array TypeId),Tryz.prog.wantsStandIn t=false:=by decide +kernel
 exact hall t hm
theorem card:Rows.HyperPartsCardSaid:=
 Claim7.holds_tied_plain_at .later [] _ _ _ _ said (fun _ h=> by cases h) (by kernel_rfl) (fun _ h=> by cases h) hyperParts_row_tie rfl ⟨rfl,rfl⟩ (by kernel_rfl) rfl plain (by kernel_rfl)
#print axioms card
end Go.Proofs.YtfncknignkndiaaGreatDoor.lawHyperParts
