/- The card of CpuParts: a run of so many steps, and one of so many more, are one of both; for every processor and every memory of at most 2000 bytes. -/
import Derived.Test.YtllemloicianmaaDoorCpuLawRuns
import Derived.Test.YtllemloicianmaaDoorCpuTab
import Derived.Test.YtllemloicianmaaDoorCpuOpenParts
set_option linter.unusedVariables false
set_option linter.unusedSimpArgs false
namespace Go.Proofs.YtllemloicianmaaDoor.lawParts
open Go.ChangeShapes Go.WideShapes Go.ChangeAt Go.RowKit

theorem contract (H : Type) (enc : TypeId × Value → H) (W : World) (base : Nat) (args : Array Value) (ds gs : List (DataW H)) (before : List MemPlace)
    (hval : ∀ (j : Nat) t v, Tryd.f11.params[j]? = some t → args[j]? = some v → Value.okWide Tryd.prog W .any base t v)
    (hW : DataW.Whole enc Tryd.prog Tryd.f11.params.toList Rows.cpuPartsSpec.vars false W args.toList ds gs before) (hL : laidMetH Tryd.prog Rows.cpuPartsRow.laid W) :
    Calls Tryd.prog 11 args W fun e W' => ∃ v, e = .returned v ∧ Rows.cpuPartsSpec.post enc Tryd.prog Tryd.f11 false true false false W args v W' := by
  have hW' := hW
  obtain ⟨p, q, hA0, hV, rfl, hfz, hnd⟩ := hW
  have hA : DataW.TrodAll enc Tryd.prog W 0 (fun _ => true) true Tryd.f11.params.toList args.toList ds p := hA0
  rw [Tryd.params11] at hA hval
  obtain ⟨v0, d0, rfl, rfl, h0⟩ := trodAll_one hA
  obtain ⟨rfl, rfl⟩ := trodVars_none hV
  obtain ⟨s0, s1, s2, s3, s4, s5, s6, s7, pc, m, x, y, rfl, hw, hpc0, hpc1⟩ := open_parts (hval 0 44 v0 rfl rfl) h0
  refine (LawParts.walk s0 s1 s2 s3 s4 s5 s6 s7 pc x y m W hw hpc0 hpc1 (tab_of hL)).mono fun e W' ⟨he, hb⟩ => ?_
  subst he
  exact ⟨_, rfl, law_post (tb := 4) hW' rfl rfl rfl rfl (by kernel_rfl) Tryd.underlying4 laid_outB (by rw [Tryd.params11]; decide +kernel) hb⟩

abbrev zeros : Array Value := #[.agg #[.int .u32 0, .int .u32 0, .int .u32 0, .int .u32 0, .int .u32 0, .int .u32 0, .int .u32 0, .int .u32 0, .int .u32 0, .string ByteArray.empty, .int .i64 0, .int .i64 0]]
theorem laid_met (os : Os) : laidMet Tryd.prog Rows.cpuPartsRow.laid ((laidWorld os).forCall (fun _ _ => 0) ⟨#[], zeros, []⟩).memory :=
  laidMet_of_run' 8 (by kernel_rfl) (by kernel_rfl)
theorem reads (os : Os) {H : Type} (enc : TypeId × Value → H) : ∃ places, DataW.whole enc Tryd.prog ((laidWorld os).forCall (fun _ _ => 0) ⟨#[], zeros, []⟩).memory Tryd.f11.params.toList Rows.cpuPartsSpec.vars false zeros.toList 8 = some ([.agg [.agg [.agg [.lit (.int .u32 0), .lit (.int .u32 0), .lit (.int .u32 0), .lit (.int .u32 0), .lit (.int .u32 0), .lit (.int .u32 0), .lit (.int .u32 0), .lit (.int .u32 0)], .lit (.int .u32 0)], .lit (.string []), .lit (.int .i64 0), .lit (.int .i64 0)]], [], places) :=
  ⟨[], by kernel_rfl⟩

set_option maxRecDepth 100000 in
theorem lifted (os : Os) (started : os.Started) (H : Type) (enc : TypeId × Value → H) (F : Stop.Interp) :
    ReturnsInHanded {} Tryd.checked os 11 .any ((OpenSpec.ofChange Rows.cpuPartsSpec).preRow enc Tryd.prog Tryd.f11 Rows.cpuPartsRow.domain false Rows.cpuPartsRow.laid) (((OpenSpec.ofChange Rows.cpuPartsSpec).at F).post enc Tryd.prog Tryd.f11 false true false false) := by
  obtain ⟨places, hx⟩ := reads os enc
  refine returnsInHanded_of_row (C := Tryd.checked) (s := OpenSpec.ofChange Rows.cpuPartsSpec) own started (by kernel_rfl) Tryd.func11
    (witness_row_at (enc := enc) (C := Tryd.checked) false (laidWorld os) zeros rfl (by kernel_rfl) (by kernel_rfl) (by kernel_rfl)
      (OpenSpec.preRow_of_cond 8 hx (by kernel_rfl) (fun k hk => by cases hk) (by kernel_rfl) (laid_met os))) ?_
  intro W base args ds gs before hval hW _ hcond hr hL _ _
  exact contract H enc W base args ds gs before hval hW hL

theorem said : Rows.CpuPartsSaid :=
  OpenClaim.holds_of_cond 11 Tryd.f11 rfl rfl rfl rfl rfl rfl rfl ⟨rfl, rfl, rfl, rfl, rfl⟩ rfl rfl rfl rfl rfl (by kernel_rfl) Tryd.func11 (by kernel_rfl)
    (of_decide_eq_true (by kernel_rfl)) (by unfold Func.isWrapper; first | (rw [if_pos (by decide +kernel)]; kernel_rfl) | (rw [if_neg (by decide +kernel)]; exact ⟨rfl, rfl⟩))
    (fun os started H enc _ F => by rw [OpenClaim.pre_eq_preRow]; exact lifted os started H enc F)

theorem plain (f : FuncId) (fn : Func) (hf : Tryd.pinned.checked.prog.funcNamed "transom/transomlaw03.CpuParts" = some f) (hfn : Tryd.pinned.checked.prog.funcs[f]? = some fn) :
    false = Tryd.pinned.checked.prog.looks [] ∧ ∀ (j : Nat) t, fn.params[j]? = some t → Tryd.pinned.checked.prog.wantsStandIn t = false := by
  obtain rfl : f = 11 := Option.some.inj ((show Tryd.prog.funcNamed "transom/transomlaw03.CpuParts" = some 11 by kernel_rfl).symm.trans hf) |>.symm
  obtain rfl : fn = Tryd.f11 := (Option.some.inj (Tryd.func11.symm.trans hfn)).symm
  refine ⟨looks_off, fun j t ht => ?_⟩
  have hm := Array.mem_of_getElem? ht
  rw [Tryd.params11] at hm
  have hall : ∀ t ∈ (#[44] : Array TypeId), Tryd.prog.wantsStandIn t = false := by decide +kernel
  exact hall t hm

theorem card : Rows.CpuPartsCardSaid :=
  Claim7.holds_tied_plain_at .later [] _ _ _ _ said (fun _ h => by cases h) (by kernel_rfl) (fun _ h => by cases h) cpuParts_row_tie rfl ⟨rfl, rfl⟩ (by kernel_rfl) rfl plain (by kernel_rfl)
#print axioms card
end Go.Proofs.YtllemloicianmaaDoor.lawParts
