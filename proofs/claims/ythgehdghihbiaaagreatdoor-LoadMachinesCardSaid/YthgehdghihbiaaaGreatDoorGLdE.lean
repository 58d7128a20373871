/- errors.As at load's errors: nil; a place over what is bad. Conditions: errors.errorType is the handle of 'error'; the target is a variable. errors.As at load's errors, walked: a place over what is bad is found. Conditions: errors.errorType is the handle of 'error'; the target is a variable. load.Unpack: the images of bytes, or why there are none. Conditions: errors.errorType is the handle of 'error'; bytes are as many as a string can have. -/
import Derived.Test.YthgehdghihbiaaaGreatDoorProg
import Derived.Test.YthgehdghihbiaaaGreatDoorGLdU
set_option linter.unusedVariables false
set_option maxRecDepth 100000
set_option maxHeartbeats 8000000
set_option linter.unusedSimpArgs false
namespace Go.Proofs.YthgehdghihbiaaaGreatDoor
open Go.RowKit Go.Extern.Stop Go.Stop Go.Extern
namespace ErL
abbrev hBB:Value:=.pointer (some ⟨2,110,none⟩)
abbrev hB:Value:=.pointer (some ⟨2,108,none⟩)
abbrev hE:Value:=.pointer (some ⟨2,80,none⟩)
abbrev hA:Value:=.pointer (some ⟨2,148,none⟩)
theorem as_nil (t:Value) (w:World):
 Calls Tryz.prog 30 #[.nilIface,t] w fun e w'=> e=.returned (.bool false)∧w'=w:=by
 go_enter Tryz.func30,Tryz.ntmps30
 go_wp2
 go_ret
 exact ⟨rfl,rfl⟩
theorem valueOfBB (t:Addr) (w:World):(ReflectliteValue.unpack (.iface 110 (.pointer (some t)))).run Tryz.prog w
 =.ok (.agg #[hBB,.pointer (some ⟨w.heap.size,0,none⟩),.int .u64 150]) (w.alloc (.cells #[.pointer (some t)] 110)):=by kernel_rfl
theorem typeBB (a:Addr) (w:World):(ReflectliteValue.methodAny (ReflectliteValue.valueError "reflectlite.Value.Type" 0) (fun t _ _ _=> ReflectliteType.toType t) #[.agg #[hBB,.pointer (some a),.int .u64 150]]).run Tryz.prog w
 =.ok (.iface 188 (.agg #[hBB])) w:=by kernel_rfl
theorem methodKind (h:Value) (w:World):(Go.method 416 188 (.agg #[h]) "Kind").run Tryz.prog w=.ok (168,h) w:=by kernel_rfl
theorem kindBB (w:World):((ReflectliteType.abiMethod fun t=> (fun a:Nat=> Value.int IntKind.u8 (a:Int)) <$> Rtype.kind t) #[hBB]).run Tryz.prog w=.ok (.int .u8 22) w:=by kernel_rfl
theorem kindB (w:World):((ReflectliteType.abiMethod fun t=> (fun a:Nat=> Value.int IntKind.u8 (a:Int)) <$> Rtype.kind t) #[hB]).run Tryz.prog w=.ok (.int .u8 22) w:=by kernel_rfl
theorem rlm (z:Sem Value) (f:TypeId→Addr→Nat→Nat→Sem Value) (v:Value):
 ReflectliteValue.method z f #[v]=(do match ← ReflectliteValue.parts v with|none=> z|some (t,a,fl)=> f t a fl (fl % 32)):=rfl
theorem partsBB (a:Addr) (w:World):(ReflectliteValue.parts (.agg #[hBB,.pointer (some a),.int .u64 150])).run Tryz.prog w=.ok (some (110,a,150)) w:=by kernel_rfl
theorem isNilBB (a p:Addr) (W:World) (ha:W.cell? a=some (.pointer (some p))):
 (ReflectliteValue.method (ReflectliteValue.valueError "reflectlite.Value.IsNil" 0) ReflectliteValue.isNil #[.agg #[hBB,.pointer (some a),.int .u64 150]]).run Tryz.prog W=.ok (.bool false) W:=by
 rw [rlm]
 simp only [Sem.run_bind,partsBB,Result.andThen]
 simp [ReflectliteValue.isNil,loadVar,isAgg,underlying,Tryz.underlying110,ha,Result.andThen]
theorem methodElem (h:Value) (w:World):(Go.method 416 188 (.agg #[h]) "Elem").run Tryz.prog w=.ok (184,.agg #[h]) w:=by kernel_rfl
theorem methodImplements (h:Value) (w:World):(Go.method 416 188 (.agg #[h]) "Implements").run Tryz.prog w=.ok (185,.agg #[h]) w:=by kernel_rfl
theorem methodAssignableTo (h:Value) (w:World):(Go.method 416 188 (.agg #[h]) "AssignableTo").run Tryz.prog w=.ok (182,.agg #[h]) w:=by kernel_rfl
theorem methodUnwrap (x y:Value) (w:World):(Go.method 416 148 (.agg #[x,y]) "Unwrap").run Tryz.prog w=.ok (177,.agg #[x,y]) w:=by kernel_rfl
theorem elemBB (w:World):(ReflectliteType.method ReflectliteType.elem #[.agg #[hBB]]).run Tryz.prog w=.ok (.iface 188 (.agg #[hB])) w:=by kernel_rfl
theorem implementsB (w:World):(ReflectliteType.relation "Implements" ReflectliteType.implements_ #[.agg #[hB],.iface 188 (.agg #[hE])]).run Tryz.prog w=.ok (.bool true) w:=by kernel_rfl
theorem typeOfB (v:Value) (w:World):(ReflectliteType.typeOf #[.iface 108 v]).run Tryz.prog w=.ok (.iface 188 (.agg #[hB])) w:=by kernel_rfl
theorem typeOfA (v:Value) (w:World):(ReflectliteType.typeOf #[.iface 148 v]).run Tryz.prog w=.ok (.iface 188 (.agg #[hA])) w:=by kernel_rfl
theorem assignableB (w:World):(ReflectliteType.relation "AssignableTo" ReflectliteType.assignableTo #[.agg #[hB],.iface 188 (.agg #[hB])]).run Tryz.prog w=.ok (.bool true) w:=by kernel_rfl
theorem assignableA (w:World):(ReflectliteType.relation "AssignableTo" ReflectliteType.assignableTo #[.agg #[hA],.iface 188 (.agg #[hB])]).run Tryz.prog w=.ok (.bool false) w:=by kernel_rfl
theorem valueOfB (e:Addr) (w:World):(ReflectliteValue.unpack (.iface 108 (.pointer (some e)))).run Tryz.prog w
 =.ok (.agg #[hB,.pointer (some ⟨w.heap.size,0,none⟩),.int .u64 150]) (w.alloc (.cells #[.pointer (some e)] 108)):=by kernel_rfl
theorem elemOfBB (w:World):(Rtype.elem? 110).run Tryz.prog w=.ok (some 108) w:=by kernel_rfl
theorem mkB (p:Addr) (w:World):(ReflectliteValue.mk 108 p ReflectliteValue.flagAddr).run Tryz.prog w=.ok (.agg #[hB,.pointer (some p),.int .u64 406]) w:=by kernel_rfl
theorem elemV (a p:Addr) (W:World) (ha:W.cell? a=some (.pointer (some p))):
 (ReflectliteValue.method (ReflectliteValue.valueError "reflectlite.Value.Elem" 0) ReflectliteValue.elem #[.agg #[hBB,.pointer (some a),.int .u64 150]]).run Tryz.prog W
   =.ok (.agg #[hB,.pointer (some p),.int .u64 406]) W:=by
 rw [rlm]
 simp only [Sem.run_bind,partsBB,Result.andThen]
 simp [ReflectliteValue.elem,loadVar,isAgg,underlying,Tryz.underlying110,ha,Result.andThen,elemOfBB,mkB]
theorem rls (v x:Value):ReflectliteValue.set #[v,x]=(do
 let (some (dst,a,fl),some (src,b,_)):=(← ReflectliteValue.parts v,← ReflectliteValue.parts x)
  |unsupported (.noEntry "extern/(internal/reflectlite.Value).Set.zeroValue")
 if fl / ReflectliteValue.flagAddr % 2==0 then unsupported (.noEntry "extern/(internal/reflectlite.Value).Set.unaddressable")
 let val ← loadVar src b
 if ← Rtype.directlyAssignable dst src then storeVar dst a val
 else if ← Rtype.implements dst src then
  if (← Rtype.kind src)==20 then
   match val with
   | .nilIface=> unsupported (.noEntry "extern/reflectlite: a nil value of one interface type handed on as a value of another")
   |_=> storeVar dst a val
  else storeVar dst a (.iface src val)
 else panicString ("reflectlite.Set: value of type " ++ (← Rtype.spelt src) ++ " is not assignable to type " ++ (← Rtype.spelt dst))
 pure (.tuple #[])):=rfl
theorem partsBa (a:Addr) (w:World):(ReflectliteValue.parts (.agg #[hB,.pointer (some a),.int .u64 406])).run Tryz.prog w=.ok (some (108,a,406)) w:=by kernel_rfl
theorem partsB (a:Addr) (w:World):(ReflectliteValue.parts (.agg #[hB,.pointer (some a),.int .u64 150])).run Tryz.prog w=.ok (some (108,a,150)) w:=by kernel_rfl
theorem directB (w:World):(Rtype.directlyAssignable 108 108).run Tryz.prog w=.ok true w:=by kernel_rfl
theorem setB (ta b e:Addr) (old:Value) (W:World) (hb:W.cell? b=some (.pointer (some e))) (ht:W.cell? ta=some old) (hf:W.frozen? ta=false):
 (ReflectliteValue.set #[.agg #[hB,.pointer (some ta),.int .u64 406],.agg #[hB,.pointer (some b),.int .u64 150]]).run Tryz.prog W
   =.ok (.tuple #[]) (W.setCell ta (.pointer (some e))):=by
 rw [rls]
 simp only [Sem.run_bind,partsBa,partsB,Result.andThen]
 simp [ReflectliteValue.flagAddr,loadVar,isAgg,underlying,Tryz.underlying108,hb,Result.andThen,directB,storeVar,Value.cells,storeCells,Addr.add]
 rw [run_store Tryz.prog W ta _ _ (by rfl)]
 simp [ht,hf]
theorem noAs (v:Value) (xT:TypeId) (w:World):(Instr.typeAssert (.iface 148 v) xT 192 true).run Tryz.prog w=.ok (.tuple #[.nilIface,.bool false]) w:=run_typeAssert_lacksB Tryz.underlying192 (by kernel_rfl) (by kernel_rfl) v xT w
theorem unwraps (v:Value) (xT:TypeId) (w:World):(Instr.typeAssert (.iface 148 v) xT 195 true).run Tryz.prog w=.ok (.tuple #[.iface 148 v,.bool true]) w:=run_typeAssert_hasB Tryz.underlying195 (by kernel_rfl) v xT w
def Hit (w:World) (t:Nat) (e:Addr) (ev:Ending) (w':World):Prop:=ev=.returned (.bool true)∧w'.cell? ⟨t,0,none⟩=some (.pointer (some e))∧Below t w w'
theorem unwrap (q:Int) (x:Value) (w:World):Calls Tryz.prog 177 #[.agg #[.int .i64 q,x]] w fun e w'=> e=.returned x∧w'=w.alloc (.cells #[.int .i64 q,x] 148):=by
 go_enter Tryz.func177,Tryz.ntmps177
 go_wp2
 go_ret
 exact ⟨rfl,rfl⟩
theorem as_at (q:Int) (e a:Addr) (t:Nat) (x old:Value) (w:World) (ha:w.cell? a=some (.pointer (some ⟨t,0,none⟩))) (ht0:w.cell? ⟨t,0,none⟩=some old) (hf0:w.frozen? ⟨t,0,none⟩=false) (hal:a.block<w.heap.size) (htl:t<w.heap.size):
 Calls Tryz.prog 60 #[.iface 148 (.agg #[.int .i64 q,.iface 108 (.pointer (some e))]),x,.agg #[hBB,.pointer (some a),.int .u64 150],.iface 188 (.agg #[hB])] w (Hit w t e):=by
 have h27:=@run_callFunc_extern Tryz.prog 57 _ (fun args=> ReflectliteValue.unpack (args.getD 0 (.tuple #[]))) Tryz.func57 (by kernel_rfl) (by kernel_rfl) (by kernel_rfl) (by kernel_rfl)
 have h33:=@run_callFunc_extern Tryz.prog 79 _ ReflectliteType.typeOf Tryz.func79 (by kernel_rfl) (by kernel_rfl) (by kernel_rfl) (by kernel_rfl)
 have h61:=@run_callFunc_extern Tryz.prog 182 _ (ReflectliteType.relation "AssignableTo" ReflectliteType.assignableTo) Tryz.func182 (by kernel_rfl) (by kernel_rfl) (by kernel_rfl) (by kernel_rfl)
 have h34:=@run_callFunc_extern Tryz.prog 86 _ (ReflectliteValue.method (ReflectliteValue.valueError "reflectlite.Value.Elem" 0) ReflectliteValue.elem) Tryz.func86 (by kernel_rfl) (by kernel_rfl) (by kernel_rfl) (by kernel_rfl)
 have h35:=@run_callFunc_extern Tryz.prog 87 _ ReflectliteValue.set Tryz.func87 (by kernel_rfl) (by kernel_rfl) (by kernel_rfl) (by kernel_rfl)
 have tA:=typeOfA
 have tB:=typeOfB
 have mA:=methodAssignableTo
 have aA:=assignableA
 have aB:=assignableB
 have nA:=noAs
 have uW:=unwraps
 have mU:=methodUnwrap
 have vB:=valueOfB
 have hst:t ≠ w.heap.size:=by omega
 have hst1:t ≠ w.heap.size + 1:=by omega
 have hst2:t ≠ w.heap.size + 1 + 1:=by omega
 have el:=elemV a ⟨t,0,none⟩ ((w.alloc (.cells #[hBB,.pointer (some a),.int .u64 150] 152)).alloc (.cells #[.int .i64 q,.iface 108 (.pointer (some e))] 148))
  (by rw [World.cell?_alloc_lt _ _ a (by simp;omega),World.cell?_alloc_lt _ _ a hal];exact ha)
 have st:=setB ⟨t,0,none⟩ ⟨w.heap.size + 1 + 1,0,none⟩ e old (((w.alloc (.cells #[hBB,.pointer (some a),.int .u64 150] 152)).alloc (.cells #[.int .i64 q,.iface 108 (.pointer (some e))] 148)).alloc (.cells #[.pointer (some e)] 108))
  (by rw [World.cell?_alloc_at _ _ _ _ (by simp)];rfl)
  (by rw [World.cell?_alloc_lt _ _ ⟨t,0,none⟩ (by simp;omega),World.cell?_alloc_lt _ _ ⟨t,0,none⟩ (by simp;omega),World.cell?_alloc_lt _ _ ⟨t,0,none⟩ htl];exact ht0)
  (by rw [World.frozen?_alloc_old _ _ ⟨t,0,none⟩ (by simp;omega),World.frozen?_alloc_old _ _ ⟨t,0,none⟩ (by simp;omega),World.frozen?_alloc_old _ _ ⟨t,0,none⟩ hst];exact hf0)
 have hend:Hit w t e (.returned (.bool true)) ((((w.alloc (.cells #[hBB,.pointer (some a),.int .u64 150] 152)).alloc (.cells #[.int .i64 q,.iface 108 (.pointer (some e))] 148)).alloc (.cells #[.pointer (some e)] 108)).setCell ⟨t,0,none⟩ (.pointer (some e))):=by
  refine ⟨rfl,World.cell?_setCell_same _ _ _ (u:=old) ?_,?_⟩
  · rw [World.cell?_alloc_lt _ _ ⟨t,0,none⟩ (by simp;omega),World.cell?_alloc_lt _ _ ⟨t,0,none⟩ (by simp;omega),World.cell?_alloc_lt _ _ ⟨t,0,none⟩ htl];exact ht0
  · exact ((((Below.refl _ _).alloc (by omega) _).alloc (by simp;omega) _).alloc (by simp;omega) _).setCell (by simp) _
 have HEND:=hU hend
 clear hend
 go_enter Tryz.func60,Tryz.ntmps60
 go_wp2
 refine wp_loop_rounds 2 ?_
 rw [rounds_succ]
 go_wp2_with (go_at_call 177;refine (unwrap _ _ _).mono ?_;rintro e w' ⟨rfl,rfl⟩)
 rw [rounds_succ]
 go_wp2
 go_ret
 exact HEND.out
theorem As_at (q:Int) (e:Addr) (t:Nat) (old:Value) (w:World) (hg:w.cell? ⟨0,0,none⟩=some (.iface 188 (.agg #[hE]))) (ht0:w.cell? ⟨t,0,none⟩=some old) (hf0:w.frozen? ⟨t,0,none⟩=false):
 Calls Tryz.prog 30 #[.iface 148 (.agg #[.int .i64 q,.iface 108 (.pointer (some e))]),.iface 110 (.pointer (some ⟨t,0,none⟩))] w (Hit w t e):=by
 have htl:t<w.heap.size:=by
  rcases Nat.lt_or_ge t w.heap.size with h|h
  · exact h
  · simp [World.cell?,Array.getElem?_eq_none h] at ht0
 have hlt:0<w.heap.size:=by omega
 have hst:t ≠ w.heap.size:=by omega
 have hst1:t ≠ w.heap.size + 1:=by omega
 have h27:=@run_callFunc_extern Tryz.prog 57 _ (fun args=> ReflectliteValue.unpack (args.getD 0 (.tuple #[]))) Tryz.func57 (by kernel_rfl) (by kernel_rfl) (by kernel_rfl) (by kernel_rfl)
 have h28:=@run_callFunc_extern Tryz.prog 58 _ (ReflectliteValue.methodAny (ReflectliteValue.valueError "reflectlite.Value.Type" 0) (fun t _ _ _=> ReflectliteType.toType t)) Tryz.func58 (by kernel_rfl) (by kernel_rfl) (by kernel_rfl) (by kernel_rfl)
 have h29:=@run_callFunc_extern Tryz.prog 59 _ (ReflectliteValue.method (ReflectliteValue.valueError "reflectlite.Value.IsNil" 0) ReflectliteValue.isNil) Tryz.func59 (by kernel_rfl) (by kernel_rfl) (by kernel_rfl) (by kernel_rfl)
 have h50:=@run_callFunc_extern Tryz.prog 168 _ (ReflectliteType.abiMethod fun t=> do pure (.int .u8 (← Rtype.kind t))) Tryz.func168 (by kernel_rfl) (by kernel_rfl) (by kernel_rfl) (by kernel_rfl)
 have h63:=@run_callFunc_extern Tryz.prog 184 _ (ReflectliteType.method ReflectliteType.elem) Tryz.func184 (by kernel_rfl) (by kernel_rfl) (by kernel_rfl) (by kernel_rfl)
 have h64:=@run_callFunc_extern Tryz.prog 185 _ (ReflectliteType.relation "Implements" ReflectliteType.implements_) Tryz.func185 (by kernel_rfl) (by kernel_rfl) (by kernel_rfl) (by kernel_rfl)
 have f27:=valueOfBB
 have f28:=typeBB
 have mK:=methodKind
 have mE:=methodElem
 have mI:=methodImplements
 have kBB:=kindBB
 have kB:=kindB
 have eBB:=elemBB
 have iB:=implementsB
 have n29:=isNilBB ⟨w.heap.size,0,none⟩ ⟨t,0,none⟩ ((w.alloc (.cells #[.pointer (some ⟨t,0,none⟩)] 110)).alloc (.cells #[hBB,.pointer (some ⟨w.heap.size,0,none⟩),.int .u64 150] 152)) (by simp)
 have hg2:((w.alloc (.cells #[.pointer (some ⟨t,0,none⟩)] 110)).alloc (.cells #[hBB,.pointer (some ⟨w.heap.size,0,none⟩),.int .u64 150] 152)).cell? ⟨0,0,none⟩=some (.iface 188 (.agg #[hE])):=by
  rw [World.cell?_alloc_lt _ _ ⟨0,0,none⟩ (by simp),World.cell?_alloc_lt _ _ ⟨0,0,none⟩ hlt];exact hg
 have c1:((w.alloc (.cells #[.pointer (some ⟨t,0,none⟩)] 110)).alloc (.cells #[hBB,.pointer (some ⟨w.heap.size,0,none⟩),.int .u64 150] 152)).cell? ⟨w.heap.size,0,none⟩=some (.pointer (some ⟨t,0,none⟩)):=by
  rw [World.cell?_alloc_lt _ _ ⟨w.heap.size,0,none⟩ (by simp)];simp
 have c2:((w.alloc (.cells #[.pointer (some ⟨t,0,none⟩)] 110)).alloc (.cells #[hBB,.pointer (some ⟨w.heap.size,0,none⟩),.int .u64 150] 152)).cell? ⟨t,0,none⟩=some old:=by
  rw [World.cell?_alloc_lt _ _ ⟨t,0,none⟩ (by simp;omega),World.cell?_alloc_lt _ _ ⟨t,0,none⟩ htl];exact ht0
 have c3:((w.alloc (.cells #[.pointer (some ⟨t,0,none⟩)] 110)).alloc (.cells #[hBB,.pointer (some ⟨w.heap.size,0,none⟩),.int .u64 150] 152)).frozen? ⟨t,0,none⟩=false:=by
  rw [World.frozen?_alloc_old _ _ ⟨t,0,none⟩ (by simp;omega),World.frozen?_alloc_old _ _ ⟨t,0,none⟩ hst];exact hf0
 have hb:Below t w ((w.alloc (.cells #[.pointer (some ⟨t,0,none⟩)] 110)).alloc (.cells #[hBB,.pointer (some ⟨w.heap.size,0,none⟩),.int .u64 150] 152)):=((Below.refl _ _).alloc (by omega) _).alloc (by simp;omega) _
 have HA:=hU (as_at q e ⟨w.heap.size,0,none⟩ t (.iface 110 (.pointer (some ⟨t,0,none⟩))) old _ c1 c2 c3 (by simp;omega) (by simp;omega))
 have HB:=hU hb
 clear c1 c2 c3 hb
 go_enter Tryz.func30,Tryz.ntmps30
 go_wp2_with (go_at_call 60;refine HA.out.mono ?_;rintro ev w' ⟨rfl,hc,hb1⟩)
 go_ret
 exact ⟨rfl,hc,HB.out.trans hb1⟩
end ErL
end Go.Proofs.YthgehdghihbiaaaGreatDoor
namespace Go.Proofs.YthgehdghihbiaaaGreatDoor
open Go.RowKit
namespace Unp
def Handle (W:World):Prop:=W.cell? ⟨0,0,none⟩=some (.iface 188 (.agg #[ErL.hE]))
theorem Handle.below {W W':World} (h:Handle W) (hb:Below W.heap.size W W'):Handle W':=by
 have hlt:0<W.heap.size:=by
  rcases Nat.eq_zero_or_pos W.heap.size with h0|h'
  · unfold Handle at h
    simp [World.cell?,h0] at h
  · exact h'
 exact (hb.cell (p:=⟨0,0,none⟩) hlt).trans h
def Gets (w:World) (s:ByteArray) (ev:Ending) (w':World):Prop:=
 ∃ lv e,ev=.returned (.tuple #[lv,.int .i64 e])∧Below w.heap.size w w'∧
   ((∃ c:Nat,Ld.unpack s.data.toList=.error c∧e=c∧lv=.slice none 0 0)∨∃ l,Ld.unpack s.data.toList=.ok (Ld.of l)∧e=0∧ImgO w' lv l)
theorem Unpack (s:ByteArray) (w:World) (hs:s.size≤140737488355328) (hh:Handle w):Calls Tryz.prog 10 #[.string s] w (Gets w s):=by
 have HH:=hU hh
 clear hh
 go_enter Tryz.func10,Tryz.ntmps10
 repeat' (first|go_values|go_skip|go_guarded|(with_reducible refine wg ?_)|go_step|go_upon)
 refine (unpack s _ hs).mono ?_
 rintro ev w1 ⟨lv,errv,rfl,hb1,⟨c,hu,⟨q,x,rfl,hx⟩,a,n,k,rfl⟩|⟨l,hu,rfl,hI⟩⟩
 · have HU:=hU hu
   have hxl:=heap_lt hx
   have cx:w1.cell? ⟨x,0,none⟩=some (.int .i64 (c:Int)):=heap_cell hx 0
   clear hu hx
   dsimp only
   repeat' (first|go_values|go_skip|go_guarded|(with_reducible refine wg ?_)|go_step|go_upon)
   refine (ErL.As_at q ⟨x,0,none⟩ w1.heap.size (.pointer none) _ ((HH.out.below hb1).below bel) (by go_simp) (by go_simp)).mono ?_
   rintro ev w2 ⟨rfl,hc2,hb2⟩
   have c2:w2.cell? ⟨x,0,none⟩=some (.int .i64 (c:Int)):=(hb2.cell (p:=⟨x,0,none⟩) hxl).trans (by go_simp)
   have hbel:Below w.heap.size w w2:=(hb1.alloc hb1.size _).trans (hb2.mono hb1.size)
   clear cx hb2
   dsimp only
   repeat' (first|go_values|go_skip|go_guarded|(with_reducible refine wg ?_)|go_step|go_upon|go_quiet (fail))
   go_ret2
   exact ⟨_,_,rfl,bel,.inl ⟨c,HU.out,rfl,rfl⟩⟩
 · have HU:=hU hu
   have HI:=hU hI
   clear hu hI
   dsimp only
   repeat' (first|go_values|go_skip|go_guarded|(with_reducible refine wg ?_)|go_step|go_upon)
   refine (ErL.as_nil _ _).mono ?_
   rintro ev w2 ⟨rfl,rfl⟩
   dsimp only
   repeat' (first|go_values|go_skip|go_guarded|(with_reducible refine wg ?_)|go_step|go_upon)
   obtain ⟨la,lc,rfl,_⟩:=HI.out.at
   go_ret2
   exact ⟨_,_,rfl,hb1.alloc hb1.size _,.inr ⟨l,HU.out,rfl,HI.out.below bel⟩⟩
end Unp
end Go.Proofs.YthgehdghihbiaaaGreatDoor
