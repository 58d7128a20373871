/- The law LoadApart: images that are not the same are not packed by the same bytes; for every two images. -/
import Derived.Test.YtonhphdoieojfaaLoadLawApart
import Derived.Test.YtonhphdoieojfaaLoadOpen
import Derived.Test.YtonhphdoieojfaaPlainTab
import Derived.Test.YtonhphdoieojfaaCard
set_option linter.unusedVariables false
set_option linter.unusedSimpArgs false
namespace Go.Proofs.Ytonhphdoieojfaa.lawLoadApart
open Go.ChangeShapes Go.WideShapes Go.ChangeAt Go.RowKit

theorem contract (H : Type) (enc : TypeId × Value → H) (W : World) (base : Nat) (args : Array Value) (ds gs : List (DataW H)) (before : List MemPlace)
    (hval : ∀ (j : Nat) t v, Try.f3.params[j]? = some t → args[j]? = some v → Value.okWide Try.prog W .any base t v)
    (hW : DataW.Whole enc Try.prog Try.f3.params.toList Rows.loadApartSpec.vars false W args.toList ds gs before) (hL : laidMetH Try.prog Rows.loadApartRow.laid W) :
    Calls Try.prog 3 args W fun e W' => ∃ v, e = .returned v ∧ Rows.loadApartSpec.post enc Try.prog Try.f3 false true false false W args v W' := by
  have hW' := hW
  obtain ⟨p, q, hA0, hV, rfl, hfz, hnd⟩ := hW
  have hA : DataW.TrodAll enc Try.prog W 0 (fun _ => true) true Try.f3.params.toList args.toList ds p := hA0
  rw [Try.params3] at hA hval
  obtain ⟨v0, v1, d0, d1, p0, p1, rfl, rfl, rfl, h0, h1⟩ := trodAll_two hA
  obtain ⟨rfl, rfl⟩ := trodVars_none hV
  obtain ⟨l, kl⟩ := open_images (hval 0 22 v0 rfl rfl) h0
  obtain ⟨m, km⟩ := open_images (hval 1 22 v1 rfl rfl) h1
  refine (Load.apart v0 v1 l m W kl km).mono fun e W' ⟨he, hb⟩ => ?_
  subst he
  exact ⟨_, rfl, law_post (tb := 4) hW' rfl rfl rfl rfl (by kernel_rfl) Try.underlying4 laid_outB (by rw [Try.params3]; decide +kernel) hb⟩

abbrev zeros : Array Value := #[.slice none 0 0, .slice none 0 0]
theorem laid_met (os : Os) : laidMet Try.prog Rows.loadApartRow.laid ((laidWorld os).forCall (fun _ _ => 0) ⟨#[], zeros, []⟩).memory :=
  laidMet_of_run' 8 (by kernel_rfl) (by kernel_rfl)
theorem reads (os : Os) {H : Type} (enc : TypeId × Value → H) : ∃ places, DataW.whole enc Try.prog ((laidWorld os).forCall (fun _ _ => 0) ⟨#[], zeros, []⟩).memory Try.f3.params.toList Rows.loadApartSpec.vars false zeros.toList 8 = some ([.nil, .nil], [], places) :=
  ⟨[], by kernel_rfl⟩

set_option maxRecDepth 100000 in
theorem lifted (os : Os) (started : os.Started) (H : Type) (enc : TypeId × Value → H) (F : Stop.Interp) :
    ReturnsInHanded {} Try.checked os 3 .any ((OpenSpec.ofChange Rows.loadApartSpec).preRow enc Try.prog Try.f3 Rows.loadApartRow.domain false Rows.loadApartRow.laid) (((OpenSpec.ofChange Rows.loadApartSpec).at F).post enc Try.prog Try.f3 false true false false) := by
  obtain ⟨places, hx⟩ := reads os enc
  refine returnsInHanded_of_row (C := Try.checked) (s := OpenSpec.ofChange Rows.loadApartSpec) own started (by kernel_rfl) Try.func3
    (witness_row_at (enc := enc) (C := Try.checked) false (laidWorld os) zeros rfl (by kernel_rfl) (by kernel_rfl) (by kernel_rfl)
      (OpenSpec.preRow_of_cond 8 hx (by kernel_rfl) (fun k hk => by cases hk) (by kernel_rfl) (laid_met os))) ?_
  intro W base args ds gs before hval hW _ hcond hr hL _ _
  exact contract H enc W base args ds gs before hval hW hL

theorem said : Rows.LoadApartSaid :=
  OpenClaim.holds_of_cond 3 Try.f3 rfl rfl rfl rfl rfl rfl rfl ⟨rfl, rfl, rfl, rfl, rfl⟩ rfl rfl rfl rfl rfl (by kernel_rfl) Try.func3 (by kernel_rfl)
    (of_decide_eq_true (by kernel_rfl)) (by unfold Func.isWrapper; first | (rw [if_pos (by decide +kernel)]; kernel_rfl) | (rw [if_neg (by decide +kernel)]; exact ⟨rfl, rfl⟩))
    (fun os started H enc _ F => by rw [OpenClaim.pre_eq_preRow]; exact lifted os started H enc F)

#print axioms said
end Go.Proofs.Ytonhphdoieojfaa.lawLoadApart
