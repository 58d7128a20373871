/- The card of CpuStays: a step that is refused changes nothing, a memory's size stays, a system call changes where it goes on alone; for every processor and every memory. -/
import Derived.Test.YtllemloicianmaaDoorCpuLawSteps
import Derived.Test.YtllemloicianmaaDoorCpuTab
import Derived.Test.YtllemloicianmaaDoorCardStr
set_option linter.unusedVariables false
set_option linter.unusedSimpArgs false
namespace Go.Proofs.YtllemloicianmaaDoor.lawStays
open Go.ChangeShapes Go.WideShapes Go.ChangeAt Go.RowKit

theorem contract (H : Type) (enc : TypeId × Value → H) (W : World) (base : Nat) (args : Array Value) (ds gs : List (DataW H)) (before : List MemPlace)
    (hval : ∀ (j : Nat) t v, Tryd.f7.params[j]? = some t → args[j]? = some v → Value.okWide Tryd.prog W .any base t v)
    (hW : DataW.Whole enc Tryd.prog Tryd.f7.params.toList Rows.cpuStaysSpec.vars false W args.toList ds gs before) (hL : laidMetH Tryd.prog Rows.cpuStaysRow.laid W)
    (hr : (DataW.weightsEach Tryd.prog (Tryd.f7.params.toList ++ (OpenSpec.ofChange Rows.cpuStaysSpec).bare.plain.varTypes Tryd.prog) (ds ++ gs)).all (· ≤ reachBytes) = true) :
    Calls Tryd.prog 7 args W fun e W' => ∃ v, e = .returned v ∧ Rows.cpuStaysSpec.post enc Tryd.prog Tryd.f7 false true false false W args v W' := by
  have hW' := hW
  obtain ⟨p, q, hA0, hV, rfl, hfz, hnd⟩ := hW
  have hA : DataW.TrodAll enc Tryd.prog W 0 (fun _ => true) true Tryd.f7.params.toList args.toList ds p := hA0
  rw [Tryd.params7] at hA hval
  obtain ⟨v0, v1, d0, d1, p0, p1, rfl, rfl, rfl, h0, h1⟩ := trodAll_two hA
  obtain ⟨rfl, rfl⟩ := trodVars_none hV
  obtain ⟨rs, pc, rfl, hw, hpc0, hpc1⟩ := open_cpu (hval 0 25 v0 rfl rfl) h0
  obtain ⟨s0, s1, s2, s3, s4, s5, s6, s7, rfl, _⟩ := cpuV_ex pc hw.1
  obtain ⟨m, rfl, rfl, rfl, wm⟩ := ChangeMaps.open_string Tryd.underlying9 (hval 1 9 v1 rfl rfl) h1
  have zm : m.size ≤ 140737488355328 := reach_string (j := 1) (t := 9) hr (by kernel_rfl) rfl
  refine (LawStays.walk s0 s1 s2 s3 s4 s5 s6 s7 pc m W hw hpc0 hpc1 zm (tab_of hL)).mono fun e W' ⟨he, hb⟩ => ?_
  subst he
  exact ⟨_, rfl, law_post (tb := 4) hW' rfl rfl rfl rfl (by kernel_rfl) Tryd.underlying4 laid_outB (by rw [Tryd.params7]; decide +kernel) hb⟩

abbrev zeros : Array Value := #[Cp.cpuV [0, 0, 0, 0, 0, 0, 0, 0] 0, .string ByteArray.empty]
theorem laid_met (os : Os) : laidMet Tryd.prog Rows.cpuStaysRow.laid ((laidWorld os).forCall (fun _ _ => 0) ⟨#[], zeros, []⟩).memory :=
  laidMet_of_run' 8 (by kernel_rfl) (by kernel_rfl)
theorem reads (os : Os) {H : Type} (enc : TypeId × Value → H) : ∃ places, DataW.whole enc Tryd.prog ((laidWorld os).forCall (fun _ _ => 0) ⟨#[], zeros, []⟩).memory Tryd.f7.params.toList Rows.cpuStaysSpec.vars false zeros.toList 8 = some ([.agg [.agg [.lit (.int .u32 0), .lit (.int .u32 0), .lit (.int .u32 0), .lit (.int .u32 0), .lit (.int .u32 0), .lit (.int .u32 0), .lit (.int .u32 0), .lit (.int .u32 0)], .lit (.int .u32 0)], .lit (.string [])], [], places) :=
  ⟨[], by kernel_rfl⟩

set_option maxRecDepth 100000 in
theorem lifted (os : Os) (started : os.Started) (H : Type) (enc : TypeId × Value → H) (F : Stop.Interp) :
    ReturnsInHanded {} Tryd.checked os 7 .any ((OpenSpec.ofChange Rows.cpuStaysSpec).preRow enc Tryd.prog Tryd.f7 Rows.cpuStaysRow.domain false Rows.cpuStaysRow.laid) (((OpenSpec.ofChange Rows.cpuStaysSpec).at F).post enc Tryd.prog Tryd.f7 false true false false) := by
  obtain ⟨places, hx⟩ := reads os enc
  refine returnsInHanded_of_row (C := Tryd.checked) (s := OpenSpec.ofChange Rows.cpuStaysSpec) own started (by kernel_rfl) Tryd.func7
    (witness_row_at (enc := enc) (C := Tryd.checked) false (laidWorld os) zeros rfl (by kernel_rfl) (by kernel_rfl) (by kernel_rfl)
      (OpenSpec.preRow_of_cond 8 hx (by kernel_rfl) (fun k hk => by cases hk) (by kernel_rfl) (laid_met os))) ?_
  intro W base args ds gs before hval hW _ hcond hr hL _ _
  exact contract H enc W base args ds gs before hval hW hL hr

theorem said : Rows.CpuStaysSaid :=
  OpenClaim.holds_of_cond 7 Tryd.f7 rfl rfl rfl rfl rfl rfl rfl ⟨rfl, rfl, rfl, rfl, rfl⟩ rfl rfl rfl rfl rfl (by kernel_rfl) Tryd.func7 (by kernel_rfl)
    (of_decide_eq_true (by kernel_rfl)) (by unfold Func.isWrapper; first | (rw [if_pos (by decide +kernel)]; kernel_rfl) | (rw [if_neg (by decide +kernel)]; exact ⟨rfl, rfl⟩))
    (fun os started H enc _ F => by rw [OpenClaim.pre_eq_preRow]; exact lifted os started H enc F)

theorem plain (f : FuncId) (fn : Func) (hf : Tryd.pinned.checked.prog.funcNamed "transom/transomlaw03.CpuStays" = some f) (hfn : Tryd.pinned.checked.prog.funcs[f]? = some fn) :
    false = Tryd.pinned.checked.prog.looks [] ∧ ∀ (j : Nat) t, fn.params[j]? = some t → Tryd.pinned.checked.prog.wantsStandIn t = false := by
  obtain rfl : f = 7 := Option.some.inj ((show Tryd.prog.funcNamed "transom/transomlaw03.CpuStays" = some 7 by kernel_rfl).symm.trans hf) |>.symm
  obtain rfl : fn = Tryd.f7 := (Option.some.inj (Tryd.func7.symm.trans hfn)).symm
  refine ⟨looks_off, fun j t ht => ?_⟩
  have hm := Array.mem_of_getElem? ht
  rw [Tryd.params7] at hm
  have hall : ∀ t ∈ (#[25, 9] : Array TypeId), Tryd.prog.wantsStandIn t = false := by decide +kernel
  exact hall t hm

theorem card : Rows.CpuStaysCardSaid :=
  Claim7.holds_tied_plain_at .later [] _ _ _ _ said (fun _ h => by cases h) (by kernel_rfl) (fun _ h => by cases h) cpuStays_row_tie rfl ⟨rfl, rfl⟩ (by kernel_rfl) rfl plain (by kernel_rfl)
#print axioms card
end Go.Proofs.YtllemloicianmaaDoor.lawStays
