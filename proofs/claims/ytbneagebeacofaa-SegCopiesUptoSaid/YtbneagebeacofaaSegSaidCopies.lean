/- The law SegCopies: bytes that were written are read, and all others are as they were; where what is read is of bulk at most 1048576. -/
import Derived.Test.YtbneagebeacofaaSegLawB
import Derived.Test.YtbneagebeacofaaSegOpen
import Derived.Test.YtbneagebeacofaaPlainTab
import Derived.Test.YtbneagebeacofaaCardStr
set_option linter.unusedVariables false
set_option linter.unusedSimpArgs false
namespace Go.Proofs.Ytbneagebeacofaa.lawSegCopies
open Go.ChangeShapes Go.WideShapes Go.ChangeAt Go.RowKit

theorem contract (H : Type) (enc : TypeId × Value → H) (W : World) (base : Nat) (args : Array Value) (ds gs : List (DataW H)) (before : List MemPlace)
    (hval : ∀ (j : Nat) t v, Try.f7.params[j]? = some t → args[j]? = some v → Value.okWide Try.prog W .any base t v)
    (hW : DataW.Whole enc Try.prog Try.f7.params.toList Rows.segCopiesSpec.vars false W args.toList ds gs before) (hL : laidMetH Try.prog Rows.segCopiesRow.laid W)
    (hk : Rows.uptoSmall H (ds ++ gs) = true) :
    Calls Try.prog 7 args W fun e W' => ∃ v, e = .returned v ∧ Rows.segCopiesSpec.post enc Try.prog Try.f7 false true false false W args v W' := by
  have hW' := hW
  obtain ⟨p, q, hA0, hV, rfl, hfz, hnd⟩ := hW
  have hA : DataW.TrodAll enc Try.prog W 0 (fun _ => true) true Try.f7.params.toList args.toList ds p := hA0
  rw [Try.params7] at hA hval
  obtain ⟨v0, v1, v2, d0, d1, d2, p0, p1, p2, rfl, rfl, rfl, h0, h1, h2⟩ := trodAll_three hA
  obtain ⟨rfl, rfl⟩ := trodVars_none hV
  obtain ⟨m, rfl, rfl, rfl, wm⟩ := ChangeMaps.open_string Try.underlying9 (hval 0 9 v0 rfl rfl) h0
  obtain ⟨a, rfl, rfl, rfl, wa⟩ := open_int Try.underlying22 (hval 1 22 v1 rfl rfl) h1
  obtain ⟨a0, a1⟩ := u32_bounds wa
  obtain ⟨s, rfl, rfl, rfl, ws⟩ := ChangeMaps.open_string Try.underlying9 (hval 2 9 v2 rfl rfl) h2
  have zm : m.size ≤ 1048576 := upto_string hk (by simp)
  have zs : s.size ≤ 1048576 := upto_string hk (by simp)
  refine (LawCopies.walk m s a W zm zs a0 a1).mono fun e W' ⟨he, hb⟩ => ?_
  subst he
  exact ⟨_, rfl, law_post (tb := 4) hW' rfl rfl rfl rfl (by kernel_rfl) Try.underlying4 laid_outB (by rw [Try.params7]; decide +kernel) hb⟩

abbrev zeros : Array Value := #[.string ByteArray.empty, .int .u32 0, .string ByteArray.empty]
theorem laid_met (os : Os) : laidMet Try.prog Rows.segCopiesRow.laid ((laidWorld os).forCall (fun _ _ => 0) ⟨#[], zeros, []⟩).memory :=
  laidMet_of_run' 8 (by kernel_rfl) (by kernel_rfl)
theorem reads (os : Os) {H : Type} (enc : TypeId × Value → H) : ∃ places, DataW.whole enc Try.prog ((laidWorld os).forCall (fun _ _ => 0) ⟨#[], zeros, []⟩).memory Try.f7.params.toList Rows.segCopiesSpec.vars false zeros.toList 8 = some ([.lit (.string []), .lit (.int .u32 0), .lit (.string [])], [], places) :=
  ⟨[], by kernel_rfl⟩

set_option maxRecDepth 100000 in
theorem lifted (os : Os) (started : os.Started) (H : Type) (enc : TypeId × Value → H) (F : Stop.Interp) :
    ReturnsInHanded {} Try.checked os 7 .any ((Rows.OpenSpec.upto Rows.segCopiesSpec).preRow enc Try.prog Try.f7 Rows.segCopiesUptoRow.domain false Rows.segCopiesUptoRow.laid) (((Rows.OpenSpec.upto Rows.segCopiesSpec).at F).post enc Try.prog Try.f7 false true false false) := by
  obtain ⟨places, hx⟩ := reads os enc
  refine returnsInHanded_of_row (C := Try.checked) (s := Rows.OpenSpec.upto Rows.segCopiesSpec) own started (by kernel_rfl) Try.func7
    (witness_row_at (enc := enc) (C := Try.checked) false (laidWorld os) zeros rfl (by kernel_rfl) (by kernel_rfl) (by kernel_rfl)
      (OpenSpec.preRow_of_cond 8 hx (by kernel_rfl) (fun k hk => by cases hk; kernel_rfl) (by kernel_rfl) (laid_met os))) ?_
  intro W base args ds gs before hval hW _ hcond hr hL _ _
  exact contract H enc W base args ds gs before hval hW hL (hcond _ rfl)

theorem said : Rows.SegCopiesUptoSaid :=
  OpenClaim.holds_of_cond 7 Try.f7 rfl rfl rfl rfl rfl rfl rfl ⟨rfl, rfl, rfl, rfl, rfl⟩ rfl rfl rfl rfl rfl (by kernel_rfl) Try.func7 (by kernel_rfl)
    (of_decide_eq_true (by kernel_rfl)) (by unfold Func.isWrapper; first | (rw [if_pos (by decide +kernel)]; kernel_rfl) | (rw [if_neg (by decide +kernel)]; exact ⟨rfl, rfl⟩))
    (fun os started H enc _ F => by rw [OpenClaim.pre_eq_preRow]; exact lifted os started H enc F)

#print axioms said
end Go.Proofs.Ytbneagebeacofaa.lawSegCopies
