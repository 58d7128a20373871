/- Rows that are the same: the reference says so, of what was told. Conditions: as many as Go can hold. -/
import Derived.Test.YthgehdghihbiaaaGreatDoorKNeq
set_option linter.unusedVariables false
set_option maxRecDepth 100000
set_option maxHeartbeats 8000000
set_option linter.unusedSimpArgs false
namespace Go.Proofs.YthgehdghihbiaaaGreatDoor
open Go.RowKit KR RegT3
namespace Kn
theorem SameEv (u v:Value) (l:List Ev) (w:World) (h1:Sl 235 4 Ev.cells w u l) (h2:Sl 235 4 Ev.cells w v l) (hn:l.length≤9223372036854775807):Calls Tryz.prog 73 #[u,v] w (Gives (.bool true) w):=by
 obtain ⟨a1,c1,rfl,_,_⟩:=h1.shape
 obtain ⟨a2,c2,rfl,_,_⟩:=h2.shape
 have H1:=hU h1.elem.2.2.2
 have H2:=hU h2.elem.2.2.2
 clear h1 h2
 go_enter Tryz.func73,Tryz.ntmps73
 repeat' (first|go_values|go_skip|go_guarded|(with_reducible refine wg ?_)|go_step|go_upon)
 go_loopw [5] (fun iv wr=> SameR w l.length iv wr) (fun iv _=> l.length - (intOf iv).toNat)
 case atStart=> exact ⟨0,Nat.zero_le _,rfl,Below.refl _ _⟩
 case round=>
  obtain ⟨k,hk,rfl,hb⟩:=hrel
  by_cases hkl:k<l.length
  · obtain ⟨x,hx⟩:∃ x,l[k]? =some x:=⟨_,List.getElem?_eq_getElem hkl⟩
    obtain ⟨g1,o1,rfl,_,hc1⟩:=H1.out k x hx
    obtain ⟨g2,o2,rfl,_,hc2⟩:=H2.out k x hx
    have HC1:=hU hc1
    have HC2:=hU hc2
    have HB:=hU hb
    have hj1:(k:Int)<(l.length:Int):=by omega
    have hj0:(0:Int)≤(k:Int):=by omega
    clear hc1 hc2 hb hx H1 H2
    have hq:=neqEv x
    repeat' (first|go_values|go_skip|go_guarded|(with_reducible refine wg ?_)|go_step|go_upon)
    refine wp_region_noPanic ?_
    refine go0 (S:=fun W=> (∀ j u,(Ev.cells x)[j]? =some u→W.cell? ⟨g1,o1 + k * 4 + j,none⟩=some u)∧(∀ j u,(Ev.cells x)[j]? =some u→W.cell? ⟨g2,o2 + k * 4 + j,none⟩=some u)) [] (⟨HC1.out _ HB.out.drew,HC2.out _ HB.out.drew⟩) fun hS=> ?_
    refine tp 0 ?_;try simp only [acts]
    refine tp 1 ?_;try simp only [acts]
    refine tp 2 ?_;try simp only [acts]
    refine tv 3 (.agg (Ev.cells x)) (fun W hSW=> run_val_load rfl rfl (run_load_arr aggEv rfl hSW.1)) ?_
    (try simp only [acts])
    refine tp 4 ?_;try simp only [acts]
    refine tp 5 ?_;try simp only [acts]
    refine tp 6 ?_;try simp only [acts]
    refine tv 7 (.agg (Ev.cells x)) (fun W hSW=> run_val_load rfl rfl (run_load_arr aggEv rfl hSW.2)) ?_
    (try simp only [acts])
    refine tp 8 ?_;try simp only [acts]
    refine doneL (by kernel_rfl) (NoPanic.normal ?_) _
    clear hS
    repeat' (first|go_values|go_skip|go_guarded|(with_reducible refine wg ?_)|go_step|go_upon)
    exact ⟨⟨k + 1,by omega,by go_num,HB.out.drew⟩,by simp [intOf];omega⟩
  · have HB:=hU hb
    clear hb
    repeat' (first|go_values|go_skip|go_guarded|(with_reducible refine wg ?_)|go_step|go_upon)
    go_ret
    exact gives_of rfl HB.out
end Kn
end Go.Proofs.YthgehdghihbiaaaGreatDoor
