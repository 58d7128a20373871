/- A region that draws its order, whose last operation waits for all others and stores what they have read: until it comes up a fact on worlds holds, and what yields under that fact may be taken first. No condition. -/
import Derived.Deep.RegionHeld3
set_option linter.unusedVariables false
set_option linter.unusedSimpArgs false
namespace Go.Proofs.YthgehdghihbiaaaGreatDoor.RegLast
open Go
section
variable {P:Program} {ops:Array Oper} {Q:Exit→Act→World→Prop} {md:Region.Mode} {S:World→Prop}
def wpL (P:Program) (md:Region.Mode) (ops:Array Oper) (Q:Exit→Act→World→Prop) (S:World→Prop) (st:Nat):Nat→Array Bool→Act→World→Prop
 |0,listed,a,w=> Region.ready md ops listed=[]∧Q .normal a w
 |fuel + 1,listed,a,w=>
  (Region.ready md ops listed=[]→Q .normal a w)∧
  ∀ i ∈ Region.ready md ops listed,wpOp P ops Q i (fun a' w'=> (i ≠ st→S w')∧wpL P md ops Q S st fuel (listed.setIfInBounds i true) a' w') a w
theorem wpAny_of:∀ (st fuel:Nat) (listed:Array Bool) (a:Act) (w:World),wpL P md ops Q S st fuel listed a w→wpAny P md ops Q fuel listed a w
 |_,0,_,_,_,h=> h
 |st,fuel + 1,_,_,_,h=> ⟨h.1,fun i hi=> wpOp_mono (fun a' w' h'=> wpAny_of st fuel _ a' w' h'.2) (h.2 i hi)⟩
theorem firstL {i st:Nat} {oi ost:Oper} {v:Value} (hi:ops[i]? =some oi) (hst:ops[st]? =some ost) (hwait:∃ e ∈ ost.after,Region.binds md e=true∧e.on=i)
 (hsel:∀ (j:Nat) (o:Oper) cs b,ops[j]? =some o→o.op ≠ .select cs b)
 (hQ:∀ c a w,Q (.panic c) (a.put oi.dst v) w→Q (.panic c) a w):
 ∀ (fuel:Nat) (listed:Array Bool) (a:Act) (w:World),
   (∀ j oj,ops[j]? =some oj→j ≠ i→listed.getD j true=false→(∀ e ∈ oj.after,Region.binds md e=true→e.on ≠ i)→oi.apart ops oj=true)→
   i ∈ Region.ready md ops listed→YieldsIf P ops S oi v a→S w→
   wpL P md ops Q S st fuel (listed.setIfInBounds i true) (a.put oi.dst v) w→wpL P md ops Q S st (fuel + 1) listed a w:=by
 intro fuel
 have hnotst:∀ (listed:Array Bool) (j:Nat),i ∈ Region.ready md ops listed→j ∈ Region.ready md ops listed→j ≠ st:=by
  intro listed j hr hj hjs
  subst hjs
  obtain ⟨_,oj,hoj,hall⟩:=mem_ready.1 hj
  rw [hst] at hoj
  injection hoj with hoj
  subst hoj
  obtain ⟨e,he,hb,heq⟩:=hwait
  have h1:=hall e he hb
  have h0:=(mem_ready.1 hr).1
  rw [heq] at h1
  rcases Nat.lt_or_ge i listed.size with h'|h'
  · simp [h'] at h0 h1;rw [h0] at h1;cases h1
  · simp [Array.getElem?_eq_none h'] at h1
 induction fuel with
 |zero=>
  intro listed a w _ hr hy hS H
  refine ⟨fun h=> (by rw [h] at hr;cases hr),fun j hj=> ?_⟩
  by_cases hji:j=i
  · subst hji;exact hy.wpOp hi hS ⟨fun _=> hS,H⟩
  · have:=ready_mono hj hji
    rw [H.1] at this
    cases this
 |succ fuel ih=>
  intro listed a w hfree hr hy hS H
  refine ⟨fun h=> (by rw [h] at hr;cases hr),fun j hj=> ?_⟩
  by_cases hji:j=i
  · subst hji;exact hy.wpOp hi hS ⟨fun _=> hS,H⟩
  · have hjst:=hnotst listed j hr hj
    have h1:=H.2 j (ready_mono hj hji)
    obtain ⟨hjun,oj,hoj,hall⟩:=mem_ready.1 hj
    have hnot:∀ e ∈ oj.after,Region.binds md e=true→e.on ≠ i:=fun e he hb heq=> by
     have h1:=hall e he hb
     have h0:=(mem_ready.1 hr).1
     rw [heq] at h1
     rcases Nat.lt_or_ge i listed.size with h'|h'
     · simp [h'] at h0 h1;rw [h0] at h1;cases h1
     · simp [Array.getElem?_eq_none h'] at h1
    have h2:=wpOp_putIf hoj (hfree j oj hoj hji hjun hnot) (fun cs b=> hsel i oi cs b hi) (fun cs b=> hsel j oj cs b hoj) hQ hy h1
    have hfree':∀ k ok,ops[k]? =some ok→k ≠ i→(listed.setIfInBounds j true).getD k true=false→
     (∀ e ∈ ok.after,Region.binds md e=true→e.on ≠ i)→oi.apart ops ok=true:=fun k ok hk hki hun hno=> by
     refine hfree k ok hk hki ?_ hno
     by_cases hjk:j=k
     · subst hjk;exact hjun
     · rw [getD_set_ne true hjk] at hun;exact hun
    refine wpOp_mono (fun a' w' h3=> ⟨fun _=> h3.2.1 hjst,ih (listed.setIfInBounds j true) a' w' hfree' (ready_mono hr (Ne.symm hji)) h3.1 (h3.2.1 hjst) ?_⟩) h2
    rw [Array.setIfInBounds_comm _ _ hji]
    exact h3.2.2
theorem takeL {i st:Nat} {oi ost:Oper} {v:Value} {fuel:Nat} {listed:Array Bool} {a:Act} {w:World} (hi:ops[i]? =some oi) (hst:ops[st]? =some ost) (hwait:(ost.after.any fun e=> Region.binds md e && e.on==i)=true)
 (hs:Region.noSelect ops=true) (hf:Region.free md ops listed i=true) (hr:(Region.ready md ops listed).contains i=true)
 (hQ:∀ c a w,Q (.panic c) (a.put oi.dst v) w→Q (.panic c) a w) (hy:YieldsIf P ops S oi v a) (hS:S w)
 (h:wpL P md ops Q S st fuel (listed.setIfInBounds i true) (a.put oi.dst v) w):wpL P md ops Q S st (fuel + 1) listed a w:=
 firstL hi hst (by
  obtain ⟨e,he,h⟩:=Array.any_eq_true'.1 hwait
  rw [Bool.and_eq_true,beq_iff_eq] at h
  exact ⟨e,he,h.1,h.2⟩) (Region.noSelect_spec hs) hQ fuel listed a w (Region.free_spec hi hf) (by simpa using hr) hy hS h
theorem oneL {i st:Nat} {o:Oper} {fuel:Nat} {listed:Array Bool} {a:Act} {w:World} (hr:Region.ready md ops listed=[i]) (ho:ops[i]? =some o)
 (h:∀ K:Act→World→Prop,Shut (∀ a w,(i ≠ st→S w)→wpL P md ops Q S st fuel (listed.setIfInBounds i true) a w→K a w)→if Region.wanted o (yielded ops a.tmps)=true then Oper.wp P o a w K Q else K (a.put o.dst undef) w):
 wpL P md ops Q S st (fuel + 1) listed a w:=
 ⟨fun h0=> absurd (hr ▸ h0) (by simp),fun j hj=> by
   rw [hr] at hj
   obtain rfl:j=i:=by simpa using hj
   exact wpOp_step ho (fun K' hK=> h K' (fun a w hS hW=> hK a w ⟨hS,hW⟩))⟩
theorem doneL {st:Nat} {listed:Array Bool} {a:Act} {w:World} (hr:Region.ready md ops listed=[]) (h:Q .normal a w):
 ∀ fuel,wpL P md ops Q S st fuel listed a w
 |0=> ⟨hr,h⟩
 |_ + 1=> ⟨fun _=> h,by rw [hr];simp⟩
theorem startL {st id:Nat} {a:Act} {w:World} (hm:P.follows .mixedOrders=true)
 (h:wpL P .any ops Q S st ops.size (Array.replicate ops.size false) a w.drew):(Code.region id ops true).wp P Q a w:=
 wp_region_any hm (wpAny_of st _ _ _ _ h)
end
end Go.Proofs.YthgehdghihbiaaaGreatDoor.RegLast
