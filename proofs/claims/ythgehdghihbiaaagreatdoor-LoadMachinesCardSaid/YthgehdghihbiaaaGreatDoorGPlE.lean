/- errors.As at plan's errors: nil; what is bad. Conditions: errors.errorType is the handle of 'error'; the target is a variable. errors.As at plan's errors, walked: what is bad is found. Conditions: errors.errorType is the handle of 'error'; the target is a variable. -/
import Derived.Test.YthgehdghihbiaaaGreatDoorProg
import Derived.Test.YthgehdghihbiaaaGreatDoorG0
import Derived.LaidEql
import Derived.Stop.Asserts
import Derived.RowKitTokens
import Derived.WalkLawsBesides
import Derived.BigQuiet
set_option linter.unusedVariables false
set_option maxRecDepth 100000
set_option maxHeartbeats 8000000
set_option linter.unusedSimpArgs false
namespace Go.Proofs.YthgehdghihbiaaaGreatDoor
open Go.RowKit Go.Extern.Stop Go.Stop Go.Extern
namespace Err
abbrev hBB:Value:=.pointer (some ⟨2,138,none⟩)
abbrev hB:Value:=.pointer (some ⟨2,129,none⟩)
abbrev hS:Value:=.pointer (some ⟨2,133,none⟩)
abbrev hE:Value:=.pointer (some ⟨2,80,none⟩)
theorem as_nil (t:Value) (w:World):
 Calls Tryz.prog 30 #[.nilIface,t] w fun e w'=> e=.returned (.bool false)∧w'=w:=by
 go_enter Tryz.func30,Tryz.ntmps30
 go_wp2
 go_ret
 exact ⟨rfl,rfl⟩
theorem valueOfBB (t:Addr) (w:World):(ReflectliteValue.unpack (.iface 138 (.pointer (some t)))).run Tryz.prog w
 =.ok (.agg #[hBB,.pointer (some ⟨w.heap.size,0,none⟩),.int .u64 150]) (w.alloc (.cells #[.pointer (some t)] 138)):=by kernel_rfl
theorem typeBB (a:Addr) (w:World):(ReflectliteValue.methodAny (ReflectliteValue.valueError "reflectlite.Value.Type" 0) (fun t _ _ _=> ReflectliteType.toType t) #[.agg #[hBB,.pointer (some a),.int .u64 150]]).run Tryz.prog w
 =.ok (.iface 188 (.agg #[hBB])) w:=by kernel_rfl
theorem methodKind (h:Value) (w:World):(Go.method 416 188 (.agg #[h]) "Kind").run Tryz.prog w=.ok (168,h) w:=by kernel_rfl
theorem kindBB (w:World):((ReflectliteType.abiMethod fun t=> (fun a:Nat=> Value.int IntKind.u8 (a:Int)) <$> Rtype.kind t) #[hBB]).run Tryz.prog w=.ok (.int .u8 22) w:=by kernel_rfl
theorem kindB (w:World):((ReflectliteType.abiMethod fun t=> (fun a:Nat=> Value.int IntKind.u8 (a:Int)) <$> Rtype.kind t) #[hB]).run Tryz.prog w=.ok (.int .u8 22) w:=by kernel_rfl
theorem rlm (z:Sem Value) (f:TypeId→Addr→Nat→Nat→Sem Value) (v:Value):
 ReflectliteValue.method z f #[v]=(do match ← ReflectliteValue.parts v with|none=> z|some (t,a,fl)=> f t a fl (fl % 32)):=rfl
theorem partsBB (a:Addr) (w:World):(ReflectliteValue.parts (.agg #[hBB,.pointer (some a),.int .u64 150])).run Tryz.prog w=.ok (some (138,a,150)) w:=by kernel_rfl
theorem isNilBB (a p:Addr) (W:World) (ha:W.cell? a=some (.pointer (some p))):
 (ReflectliteValue.method (ReflectliteValue.valueError "reflectlite.Value.IsNil" 0) ReflectliteValue.isNil #[.agg #[hBB,.pointer (some a),.int .u64 150]]).run Tryz.prog W=.ok (.bool false) W:=by
 rw [rlm]
 simp only [Sem.run_bind,partsBB,Result.andThen]
 simp [ReflectliteValue.isNil,loadVar,isAgg,underlying,Tryz.underlying138,ha,Result.andThen]
theorem methodElem (h:Value) (w:World):(Go.method 416 188 (.agg #[h]) "Elem").run Tryz.prog w=.ok (184,.agg #[h]) w:=by kernel_rfl
theorem methodImplements (h:Value) (w:World):(Go.method 416 188 (.agg #[h]) "Implements").run Tryz.prog w=.ok (185,.agg #[h]) w:=by kernel_rfl
theorem methodAssignableTo (h:Value) (w:World):(Go.method 416 188 (.agg #[h]) "AssignableTo").run Tryz.prog w=.ok (182,.agg #[h]) w:=by kernel_rfl
theorem elemBB (w:World):(ReflectliteType.method ReflectliteType.elem #[.agg #[hBB]]).run Tryz.prog w=.ok (.iface 188 (.agg #[hB])) w:=by kernel_rfl
theorem implementsB (w:World):(ReflectliteType.relation "Implements" ReflectliteType.implements_ #[.agg #[hB],.iface 188 (.agg #[hE])]).run Tryz.prog w=.ok (.bool true) w:=by kernel_rfl
theorem typeOfB (v:Value) (w:World):(ReflectliteType.typeOf #[.iface 129 v]).run Tryz.prog w=.ok (.iface 188 (.agg #[hB])) w:=by kernel_rfl
theorem assignableB (w:World):(ReflectliteType.relation "AssignableTo" ReflectliteType.assignableTo #[.agg #[hB],.iface 188 (.agg #[hB])]).run Tryz.prog w=.ok (.bool true) w:=by kernel_rfl
theorem valueOfB (e:Addr) (w:World):(ReflectliteValue.unpack (.iface 129 (.pointer (some e)))).run Tryz.prog w
 =.ok (.agg #[hB,.pointer (some ⟨w.heap.size,0,none⟩),.int .u64 150]) (w.alloc (.cells #[.pointer (some e)] 129)):=by kernel_rfl
theorem elemOfBB (w:World):(Rtype.elem? 138).run Tryz.prog w=.ok (some 129) w:=by kernel_rfl
theorem mkB (p:Addr) (w:World):(ReflectliteValue.mk 129 p ReflectliteValue.flagAddr).run Tryz.prog w=.ok (.agg #[hB,.pointer (some p),.int .u64 406]) w:=by kernel_rfl
theorem elemV (a p:Addr) (W:World) (ha:W.cell? a=some (.pointer (some p))):
 (ReflectliteValue.method (ReflectliteValue.valueError "reflectlite.Value.Elem" 0) ReflectliteValue.elem #[.agg #[hBB,.pointer (some a),.int .u64 150]]).run Tryz.prog W
   =.ok (.agg #[hB,.pointer (some p),.int .u64 406]) W:=by
 rw [rlm]
 simp only [Sem.run_bind,partsBB,Result.andThen]
 simp [ReflectliteValue.elem,loadVar,isAgg,underlying,Tryz.underlying138,ha,Result.andThen,elemOfBB,mkB]
theorem rls (v x:Value):ReflectliteValue.set #[v,x]=(do
 let (some (dst,a,fl),some (src,b,_)):=(← ReflectliteValue.parts v,← ReflectliteValue.parts x)
  |unsupported (.noEntry "extern/(internal/reflectlite.Value).Set.zeroValue")
 if fl / ReflectliteValue.flagAddr % 2==0 then unsupported (.noEntry "extern/(internal/reflectlite.Value).Set.unaddressable")
 let val ← loadVar src b
 if ← Rtype.directlyAssignable dst src then storeVar dst a val
 else if ← Rtype.implements dst src then
  if (← Rtype.kind src)==20 then
   match val with
   | .nilIface=> unsupported (.noEntry "extern/reflectlite: a nil value of one interface type handed on as a value of another")
   |_=> storeVar dst a val
  else storeVar dst a (.iface src val)
 else panicString ("reflectlite.Set: value of type " ++ (← Rtype.spelt src) ++ " is not assignable to type " ++ (← Rtype.spelt dst))
 pure (.tuple #[])):=rfl
theorem partsBa (a:Addr) (w:World):(ReflectliteValue.parts (.agg #[hB,.pointer (some a),.int .u64 406])).run Tryz.prog w=.ok (some (129,a,406)) w:=by kernel_rfl
theorem partsB (a:Addr) (w:World):(ReflectliteValue.parts (.agg #[hB,.pointer (some a),.int .u64 150])).run Tryz.prog w=.ok (some (129,a,150)) w:=by kernel_rfl
theorem directB (w:World):(Rtype.directlyAssignable 129 129).run Tryz.prog w=.ok true w:=by kernel_rfl
theorem setB (ta b e:Addr) (old:Value) (W:World) (hb:W.cell? b=some (.pointer (some e))) (ht:W.cell? ta=some old) (hf:W.frozen? ta=false):
 (ReflectliteValue.set #[.agg #[hB,.pointer (some ta),.int .u64 406],.agg #[hB,.pointer (some b),.int .u64 150]]).run Tryz.prog W
   =.ok (.tuple #[]) (W.setCell ta (.pointer (some e))):=by
 rw [rls]
 simp only [Sem.run_bind,partsBa,partsB,Result.andThen]
 simp [ReflectliteValue.flagAddr,loadVar,isAgg,underlying,Tryz.underlying129,hb,Result.andThen,directB,storeVar,Value.cells,storeCells,Addr.add]
 rw [run_store Tryz.prog W ta _ _ (by rfl)]
 simp [ht,hf]
theorem typeOfS (v:Value) (w:World):(ReflectliteType.typeOf #[.iface 133 v]).run Tryz.prog w=.ok (.iface 188 (.agg #[hS])) w:=by kernel_rfl
theorem comparableS (w:World):((ReflectliteType.method fun t=> do Rtype.noPackHeld "Comparable" t;(fun a=> Value.bool a.comparable) <$> typeInfo t) #[.agg #[hS]]).run Tryz.prog w=.ok (.bool true) w:=by kernel_rfl
theorem methodComparable (v:Value) (w:World):(Go.method 416 188 v "Comparable").run Tryz.prog w=.ok (183,v) w:=by kernel_rfl
theorem methodUnwrap (x y:Value) (w:World):(Go.method 416 135 (.agg #[x,y]) "Unwrap").run Tryz.prog w=.ok (175,.agg #[x,y]) w:=by kernel_rfl
theorem noIsB (v:Value) (xT:TypeId) (w:World):(Instr.typeAssert (.iface 129 v) xT 240 true).run Tryz.prog w=.ok (.tuple #[.nilIface,.bool false]) w:=run_typeAssert_lacksB Tryz.underlying240 (by kernel_rfl) (by kernel_rfl) v xT w
theorem noUnwrapB (v:Value) (xT:TypeId) (w:World):(Instr.typeAssert (.iface 129 v) xT 195 true).run Tryz.prog w=.ok (.tuple #[.nilIface,.bool false]) w:=run_typeAssert_lacksB Tryz.underlying195 (by kernel_rfl) (by kernel_rfl) v xT w
theorem noUnwrapsB (v:Value) (xT:TypeId) (w:World):(Instr.typeAssert (.iface 129 v) xT 197 true).run Tryz.prog w=.ok (.tuple #[.nilIface,.bool false]) w:=run_typeAssert_lacksB Tryz.underlying197 (by kernel_rfl) (by kernel_rfl) v xT w
theorem noIsA (v:Value) (xT:TypeId) (w:World):(Instr.typeAssert (.iface 135 v) xT 240 true).run Tryz.prog w=.ok (.tuple #[.nilIface,.bool false]) w:=run_typeAssert_lacksB Tryz.underlying240 (by kernel_rfl) (by kernel_rfl) v xT w
theorem noUnwrapA (v:Value) (xT:TypeId) (w:World):(Instr.typeAssert (.iface 135 v) xT 195 true).run Tryz.prog w=.ok (.tuple #[.nilIface,.bool false]) w:=run_typeAssert_lacksB Tryz.underlying195 (by kernel_rfl) (by kernel_rfl) v xT w
theorem unwrapsA (v:Value) (xT:TypeId) (w:World):(Instr.typeAssert (.iface 135 v) xT 197 true).run Tryz.prog w=.ok (.tuple #[.iface 135 v,.bool true]) w:=run_typeAssert_hasB Tryz.underlying197 (by kernel_rfl) v xT w
theorem eqBS (x y:Value) (w:World):(binOp .eql 80 (.iface 129 x) (.iface 133 y)).run Tryz.prog w=.ok (.bool false) w:=run_eql_iface_types _ _ x y Tryz.underlying80 (by decide) w
theorem eqAS (x y:Value) (w:World):(binOp .eql 80 (.iface 135 x) (.iface 133 y)).run Tryz.prog w=.ok (.bool false) w:=run_eql_iface_types _ _ x y Tryz.underlying80 (by decide) w
theorem eqSS (w:World):(binOp .eql 80 (.iface 133 (.agg #[])) (.iface 133 (.agg #[]))).run Tryz.prog w=.ok (.bool true) w:=by kernel_rfl
def Hit (w:World) (t:Nat) (e:Addr) (ev:Ending) (w':World):Prop:=ev=.returned (.bool true)∧w'.cell? ⟨t,0,none⟩=some (.pointer (some e))∧Below t w w'
theorem as_bad (e a:Addr) (t:Nat) (x old:Value) (w:World) (ha:w.cell? a=some (.pointer (some ⟨t,0,none⟩))) (ht0:w.cell? ⟨t,0,none⟩=some old) (hf0:w.frozen? ⟨t,0,none⟩=false) (hal:a.block<w.heap.size) (htl:t<w.heap.size):
 Calls Tryz.prog 60 #[.iface 129 (.pointer (some e)),x,.agg #[hBB,.pointer (some a),.int .u64 150],.iface 188 (.agg #[hB])] w (Hit w t e):=by
 have h27:=@run_callFunc_extern Tryz.prog 57 _ (fun args=> ReflectliteValue.unpack (args.getD 0 (.tuple #[]))) Tryz.func57 (by kernel_rfl) (by kernel_rfl) (by kernel_rfl) (by kernel_rfl)
 have h33:=@run_callFunc_extern Tryz.prog 79 _ ReflectliteType.typeOf Tryz.func79 (by kernel_rfl) (by kernel_rfl) (by kernel_rfl) (by kernel_rfl)
 have h61:=@run_callFunc_extern Tryz.prog 182 _ (ReflectliteType.relation "AssignableTo" ReflectliteType.assignableTo) Tryz.func182 (by kernel_rfl) (by kernel_rfl) (by kernel_rfl) (by kernel_rfl)
 have h34:=@run_callFunc_extern Tryz.prog 86 _ (ReflectliteValue.method (ReflectliteValue.valueError "reflectlite.Value.Elem" 0) ReflectliteValue.elem) Tryz.func86 (by kernel_rfl) (by kernel_rfl) (by kernel_rfl) (by kernel_rfl)
 have h35:=@run_callFunc_extern Tryz.prog 87 _ ReflectliteValue.set Tryz.func87 (by kernel_rfl) (by kernel_rfl) (by kernel_rfl) (by kernel_rfl)
 have tB:=typeOfB
 have mA:=methodAssignableTo
 have aB:=assignableB
 have vB:=valueOfB
 have hst:t ≠ w.heap.size:=by omega
 have hst1:t ≠ w.heap.size + 1:=by omega
 have el:=elemV a ⟨t,0,none⟩ (w.alloc (.cells #[hBB,.pointer (some a),.int .u64 150] 152))
  (by rw [World.cell?_alloc_lt _ _ a hal];exact ha)
 have st:=setB ⟨t,0,none⟩ ⟨w.heap.size + 1,0,none⟩ e old ((w.alloc (.cells #[hBB,.pointer (some a),.int .u64 150] 152)).alloc (.cells #[.pointer (some e)] 129))
  (by rw [World.cell?_alloc_at _ _ _ _ (by simp)];rfl)
  (by rw [World.cell?_alloc_lt _ _ ⟨t,0,none⟩ (by simp;omega),World.cell?_alloc_lt _ _ ⟨t,0,none⟩ htl];exact ht0)
  (by rw [World.frozen?_alloc_old _ _ ⟨t,0,none⟩ (by simp;omega),World.frozen?_alloc_old _ _ ⟨t,0,none⟩ hst];exact hf0)
 have hend:Hit w t e (.returned (.bool true)) (((w.setCell ⟨t,0,none⟩ (.pointer (some e))).alloc (.cells #[hBB,.pointer (some a),.int .u64 150] 152)).alloc (.cells #[.pointer (some e)] 129)):=by
  have hsz:(w.setCell ⟨t,0,none⟩ (.pointer (some e))).heap.size=w.heap.size:=by simp [World.setCell]
  refine ⟨rfl,?_,?_⟩
  · rw [World.cell?_alloc_lt _ _ ⟨t,0,none⟩ (by simp;omega),World.cell?_alloc_lt _ _ ⟨t,0,none⟩ (by rw [hsz];exact htl)]
    exact World.cell?_setCell_same _ _ _ (u:=old) ht0
  · exact (((Below.refl _ _).setCell (by simp) _).alloc (by rw [hsz];omega) _).alloc (by simp;omega) _
 have HEND:=hU hend
 clear hend
 go_enter Tryz.func60,Tryz.ntmps60
 go_wp2
 refine wp_loop_rounds 1 ?_
 rw [rounds_succ]
 go_wp2
 go_ret
 exact HEND.out
theorem As_bad (e:Addr) (t:Nat) (old:Value) (w:World) (hg:w.cell? ⟨0,0,none⟩=some (.iface 188 (.agg #[hE]))) (ht0:w.cell? ⟨t,0,none⟩=some old) (hf0:w.frozen? ⟨t,0,none⟩=false):
 Calls Tryz.prog 30 #[.iface 129 (.pointer (some e)),.iface 138 (.pointer (some ⟨t,0,none⟩))] w (Hit w t e):=by
 have htl:t<w.heap.size:=by
  rcases Nat.lt_or_ge t w.heap.size with h|h
  · exact h
  · simp [World.cell?,Array.getElem?_eq_none h] at ht0
 have hlt:0<w.heap.size:=by omega
 have hst:t ≠ w.heap.size:=by omega
 have hst1:t ≠ w.heap.size + 1:=by omega
 have h27:=@run_callFunc_extern Tryz.prog 57 _ (fun args=> ReflectliteValue.unpack (args.getD 0 (.tuple #[]))) Tryz.func57 (by kernel_rfl) (by kernel_rfl) (by kernel_rfl) (by kernel_rfl)
 have h28:=@run_callFunc_extern Tryz.prog 58 _ (ReflectliteValue.methodAny (ReflectliteValue.valueError "reflectlite.Value.Type" 0) (fun t _ _ _=> ReflectliteType.toType t)) Tryz.func58 (by kernel_rfl) (by kernel_rfl) (by kernel_rfl) (by kernel_rfl)
 have h29:=@run_callFunc_extern Tryz.prog 59 _ (ReflectliteValue.method (ReflectliteValue.valueError "reflectlite.Value.IsNil" 0) ReflectliteValue.isNil) Tryz.func59 (by kernel_rfl) (by kernel_rfl) (by kernel_rfl) (by kernel_rfl)
 have h50:=@run_callFunc_extern Tryz.prog 168 _ (ReflectliteType.abiMethod fun t=> do pure (.int .u8 (← Rtype.kind t))) Tryz.func168 (by kernel_rfl) (by kernel_rfl) (by kernel_rfl) (by kernel_rfl)
 have h63:=@run_callFunc_extern Tryz.prog 184 _ (ReflectliteType.method ReflectliteType.elem) Tryz.func184 (by kernel_rfl) (by kernel_rfl) (by kernel_rfl) (by kernel_rfl)
 have h64:=@run_callFunc_extern Tryz.prog 185 _ (ReflectliteType.relation "Implements" ReflectliteType.implements_) Tryz.func185 (by kernel_rfl) (by kernel_rfl) (by kernel_rfl) (by kernel_rfl)
 have f27:=valueOfBB
 have f28:=typeBB
 have mK:=methodKind
 have mE:=methodElem
 have mI:=methodImplements
 have kBB:=kindBB
 have kB:=kindB
 have eBB:=elemBB
 have iB:=implementsB
 have n29:=isNilBB ⟨w.heap.size,0,none⟩ ⟨t,0,none⟩ ((w.alloc (.cells #[.pointer (some ⟨t,0,none⟩)] 138)).alloc (.cells #[hBB,.pointer (some ⟨w.heap.size,0,none⟩),.int .u64 150] 152)) (by simp)
 have hg2:((w.alloc (.cells #[.pointer (some ⟨t,0,none⟩)] 138)).alloc (.cells #[hBB,.pointer (some ⟨w.heap.size,0,none⟩),.int .u64 150] 152)).cell? ⟨0,0,none⟩=some (.iface 188 (.agg #[hE])):=by
  rw [World.cell?_alloc_lt _ _ ⟨0,0,none⟩ (by simp),World.cell?_alloc_lt _ _ ⟨0,0,none⟩ hlt];exact hg
 have c1:((w.alloc (.cells #[.pointer (some ⟨t,0,none⟩)] 138)).alloc (.cells #[hBB,.pointer (some ⟨w.heap.size,0,none⟩),.int .u64 150] 152)).cell? ⟨w.heap.size,0,none⟩=some (.pointer (some ⟨t,0,none⟩)):=by
  rw [World.cell?_alloc_lt _ _ ⟨w.heap.size,0,none⟩ (by simp)];simp
 have c2:((w.alloc (.cells #[.pointer (some ⟨t,0,none⟩)] 138)).alloc (.cells #[hBB,.pointer (some ⟨w.heap.size,0,none⟩),.int .u64 150] 152)).cell? ⟨t,0,none⟩=some old:=by
  rw [World.cell?_alloc_lt _ _ ⟨t,0,none⟩ (by simp;omega),World.cell?_alloc_lt _ _ ⟨t,0,none⟩ htl];exact ht0
 have c3:((w.alloc (.cells #[.pointer (some ⟨t,0,none⟩)] 138)).alloc (.cells #[hBB,.pointer (some ⟨w.heap.size,0,none⟩),.int .u64 150] 152)).frozen? ⟨t,0,none⟩=false:=by
  rw [World.frozen?_alloc_old _ _ ⟨t,0,none⟩ (by simp;omega),World.frozen?_alloc_old _ _ ⟨t,0,none⟩ hst];exact hf0
 have hb:Below t w ((w.alloc (.cells #[.pointer (some ⟨t,0,none⟩)] 138)).alloc (.cells #[hBB,.pointer (some ⟨w.heap.size,0,none⟩),.int .u64 150] 152)):=((Below.refl _ _).alloc (by omega) _).alloc (by simp;omega) _
 have HA:=hU (as_bad e ⟨w.heap.size,0,none⟩ t (.iface 138 (.pointer (some ⟨t,0,none⟩))) old _ c1 c2 c3 (by simp;omega) (by simp;omega))
 have HB:=hU hb
 clear c1 c2 c3 hb
 go_enter Tryz.func30,Tryz.ntmps30
 go_wp2_with (go_at_call 60;refine HA.out.mono ?_;rintro ev w' ⟨rfl,hc,hb1⟩)
 go_ret
 exact ⟨rfl,hc,HB.out.trans hb1⟩
theorem Is_nil (t:Value) (w:World) (tT:TypeId) (v:Value) (ht:t=.iface tT v):
 Calls Tryz.prog 46 #[.nilIface,t] w fun e w'=> e=.returned (.bool false)∧w'=w:=by
 subst ht
 have hn:=run_eql_iface_nil_left (P:=Tryz.prog) w tT v Tryz.underlying80
 go_enter Tryz.func46,Tryz.ntmps46
 go_wp2
 go_ret
 exact ⟨rfl,rfl⟩
abbrev shortV:Value:=.iface 133 (.agg #[])
theorem is_bad (p:Value) (w:World):Calls Tryz.prog 80 #[.iface 129 p,shortV,.bool true] w fun e w'=> e=.returned (.bool false)∧w'=w:=by
 have n1:=noIsB
 have n2:=noUnwrapB
 have n3:=noUnwrapsB
 have q1:=eqBS
 go_enter Tryz.func80,Tryz.ntmps80
 go_wp2
 refine wp_loop_rounds 1 ?_
 rw [rounds_succ]
 go_wp2
 go_ret
 exact ⟨rfl,rfl⟩
theorem is_short (w:World):Calls Tryz.prog 80 #[shortV,shortV,.bool true] w fun e w'=> e=.returned (.bool true)∧w'=w:=by
 have q1:=eqSS
 go_enter Tryz.func80,Tryz.ntmps80
 go_wp2
 refine wp_loop_rounds 1 ?_
 rw [rounds_succ]
 go_wp2
 go_ret
 exact ⟨rfl,rfl⟩
theorem unwrap (p:Option Addr) (w:World):Calls Tryz.prog 175 #[.agg #[.pointer p,shortV]] w fun e w'=> e=.returned (.slice (some ⟨w.heap.size + 1,0,none⟩) 2 2)∧w'=(w.alloc (.cells #[.pointer p,shortV] 135)).alloc (.cells #[.iface 129 (.pointer p),shortV] 80):=by
 go_enter Tryz.func175,Tryz.ntmps175
 go_wp2
 go_ret
 exact ⟨rfl,rfl⟩
theorem is_at (p:Option Addr) (w:World):Calls Tryz.prog 80 #[.iface 135 (.agg #[.pointer p,shortV]),shortV,.bool true] w (Gives (.bool true) w):=by
 have n1:=noIsA
 have n2:=noUnwrapA
 have n3:=unwrapsA
 have q1:=eqAS
 have mU:=methodUnwrap
 go_enter Tryz.func80,Tryz.ntmps80
 go_wp2
 refine wp_loop_rounds 1 ?_
 rw [rounds_succ]
 go_wp2_with (go_at_call 175;refine (unwrap _ _).mono ?_;rintro e w' ⟨rfl,rfl⟩)
 refine wp_loop_rounds 2 ?_
 rw [rounds_succ]
 go_wp2_with (go_at_call 80;refine (is_bad _ _).mono ?_;rintro e w' ⟨rfl,rfl⟩)
 rw [rounds_succ]
 go_wp2_with (go_at_call 80;refine (is_short _).mono ?_;rintro e w' ⟨rfl,rfl⟩)
 go_ret
 exact ⟨rfl,bel⟩
theorem Is_bad (p:Value) (w:World):Calls Tryz.prog 46 #[.iface 129 p,shortV] w fun e w'=> e=.returned (.bool false)∧w'=w:=by
 have h33:=@run_callFunc_extern Tryz.prog 79 _ ReflectliteType.typeOf Tryz.func79 (by kernel_rfl) (by kernel_rfl) (by kernel_rfl) (by kernel_rfl)
 have h86:=@run_callFunc_extern Tryz.prog 183 _ (ReflectliteType.method fun t=> do Rtype.noPackHeld "Comparable" t;pure (.bool (← typeInfo t).comparable)) Tryz.func183 (by kernel_rfl) (by kernel_rfl) (by kernel_rfl) (by kernel_rfl)
 have tT:=typeOfS
 have cT:=comparableS
 have mR:=methodComparable
 go_enter Tryz.func46,Tryz.ntmps46
 go_wp2_with (go_at_call 80;refine (is_bad _ _).mono ?_;rintro e w' ⟨rfl,rfl⟩)
 go_ret
 exact ⟨rfl,rfl⟩
theorem Is_at (p:Option Addr) (w:World):Calls Tryz.prog 46 #[.iface 135 (.agg #[.pointer p,shortV]),shortV] w (Gives (.bool true) w):=by
 have h33:=@run_callFunc_extern Tryz.prog 79 _ ReflectliteType.typeOf Tryz.func79 (by kernel_rfl) (by kernel_rfl) (by kernel_rfl) (by kernel_rfl)
 have h86:=@run_callFunc_extern Tryz.prog 183 _ (ReflectliteType.method fun t=> do Rtype.noPackHeld "Comparable" t;pure (.bool (← typeInfo t).comparable)) Tryz.func183 (by kernel_rfl) (by kernel_rfl) (by kernel_rfl) (by kernel_rfl)
 have tT:=typeOfS
 have cT:=comparableS
 have mR:=methodComparable
 go_enter Tryz.func46,Tryz.ntmps46
 go_wp2_with (go_at_call 80;refine (is_at _ _).mono ?_;rintro e w1 ⟨rfl,hb1⟩)
 go_ret
 exact ⟨rfl,hb1⟩
end Err
end Go.Proofs.YthgehdghihbiaaaGreatDoor
