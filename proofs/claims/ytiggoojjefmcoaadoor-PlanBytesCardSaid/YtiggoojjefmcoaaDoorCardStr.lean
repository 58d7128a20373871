/- How long a string among the arguments is: by the form's reach, and by the bound of the second form. No condition. -/
import Derived.Test.YtiggoojjefmcoaaDoorRows
import Derived.ProofKit
import Derived.SizedLaws
namespace Go.Proofs.YtiggoojjefmcoaaDoor
theorem upto_mem {H : Type} {d : DataW H} {l : List (DataW H)} (h : d ∈ l) : Rows.uptoBulk d ≤ Rows.uptoBulkAll l := by
  induction l with
  | nil => cases h
  | cons x r ih =>
    simp only [Rows.uptoBulkAll]
    cases List.mem_cons.1 h with
    | inl e => subst e; omega
    | inr e => have := ih e; omega
theorem upto_string {H : Type} {ds : List (DataW H)} {s : ByteArray} (hk : Rows.uptoSmall H ds = true) (hm : DataW.lit (.string s.data.toList) ∈ ds) : s.size ≤ 1048576 := by
  have h1 : Rows.uptoBulkAll ds ≤ 1048576 := of_decide_eq_true hk
  have h2 := upto_mem hm
  simp only [Rows.uptoBulk] at h2
  have e : s.data.toList.length = s.size := Array.length_toList
  omega
theorem reach_string {H : Type} {P : Program} {ts : List TypeId} {ds : List (DataW H)} {j : Nat} {t : TypeId} {s : ByteArray} (h : (DataW.weightsEach P ts ds).all (· ≤ reachBytes) = true) (ht : ts[j]? = some t)
    (hd : ds[j]? = some (.lit (.string s.data.toList))) : s.size ≤ 140737488355328 := by
  have h1 := sized_string h ht hd
  have e : s.data.toList.length = s.size := Array.length_toList
  unfold reachBytes at h1
  omega
end Go.Proofs.YtiggoojjefmcoaaDoor
