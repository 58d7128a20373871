/- What a plan asks, as plain functions: rows of numbers. No condition. Slices of rows of numbers, slices of such slices, and a plan, as they lie in memory. No condition. The small functions of package plan, and the searches. No condition. The searches of package plan through parts, channels and windows; a channel's look. No condition. A window's look. Condition: a frame is an integer. The inner part of plan.Check: its loop over windows. plan.Check answers there what Pl.check says. Condition: a frame is an integer. plan.Check answers what Pl.check says. Condition: a frame is an integer. What a plan that may be is, from Pl.check. No condition. -/
import Derived.Test.YthgehdghihbiaaaGreatDoorG0
import Derived.Test.YthgehdghihbiaaaGreatDoorProg
import Derived.Handy
import Derived.WalkLawsBesides
import Derived.BigQuiet
set_option linter.unusedVariables false
set_option maxRecDepth 100000
set_option maxHeartbeats 8000000
set_option linter.unusedSimpArgs false
namespace Go.Proofs.YthgehdghihbiaaaGreatDoor.Pl
def g (r:List Int) (j:Nat):Int:=r.getD j 0
def odd (x:Int):Bool:=decide (x<1)||decide (3<x)
def odd3 (x y z:Int):Bool:=odd x||(odd y||odd z)
def partB (r:List Int):Bool:=decide (64≤g r 0) && (decide (g r 0≤1024) && ((g r 0 % 4==0) && !odd3 (g r 1) (g r 2) (g r 3)))
def chanB (np:Int) (r:List Int):Bool:=
 decide ((g r 0=1∨g r 0=2)∧0≤g r 1∧g r 1<np∧0≤g r 2∧g r 2<np∧g r 1 ≠ g r 2∧1≤g r 3∧g r 3≤32∧1≤g r 4∧g r 4≤(if g r 0=1 then 1 else 8))
def winE (np fr:Int) (r:List Int) (behind:Int):Int:=
 if g r 0<0∨np≤g r 0∨g r 1<0∨g r 2≤2∨fr<g r 2∨fr - g r 2<g r 1 then 1 else if g r 1<behind then 9 else 0
def rowE (np fr:Int):List (List Int)→Int→Int
 |[],_=> 0
 |r::l,behind=> if winE np fr r behind=0 then rowE np fr l (g r 1 + g r 2) else winE np fr r behind
def winsE (np fr:Int):List (List (List Int))→Int
 |[]=> 0
 |l::ls=> if rowE np fr l 0=0 then winsE np fr ls else rowE np fr l 0
structure Plan where
 ps:List (List Int)
 fr:Int
 ws:List (List (List Int))
 cs:List (List Int)
def check (p:Plan):Int:=
 if 4<p.ps.length∨3<p.ws.length∨6<p.cs.length∨p.ws.any (fun l=> decide (8<l.length))=true then 4
 else if p.ps.length=0∨p.ws.length=0 then 1
 else if p.ps.any (fun r=> !partB r)=true∨p.fr<1∨4096<p.fr then 1
 else if winsE p.ps.length p.fr p.ws ≠ 0 then winsE p.ps.length p.fr p.ws
 else if p.cs.any (fun r=> !chanB p.ps.length r)=true then 1 else 0
end Go.Proofs.YthgehdghihbiaaaGreatDoor.Pl
namespace Go.Proofs.YthgehdghihbiaaaGreatDoor
open Go.RowKit
def RowsAt (W:World) (sz:Nat) (v:Value) (l:List (List Int)):Prop:=
 ∃ a c,v=.slice a l.length c∧l.length≤9223372036854775807∧(l=[]∨∃ b off,a=some ⟨b,off,none⟩∧b<W.heap.size∧∀ i j,i<l.length→j<sz→W.cell? ⟨b,off + i * sz + j,none⟩=some (.int .i64 (Pl.g (l.getD i []) j)))
def WinsAt (W:World) (v:Value) (ws:List (List (List Int))):Prop:=
 ∃ a c,v=.slice a ws.length c∧ws.length≤9223372036854775807∧(ws=[]∨∃ b off,a=some ⟨b,off,none⟩∧b<W.heap.size∧∀ i,i<ws.length→∃ u,W.cell? ⟨b,off + i,none⟩=some u∧RowsAt W 3 u (ws.getD i []))
def PlanAt (W:World) (v:Value) (p:Pl.Plan):Prop:=
 ∃ vp vw vc,v=.agg #[vp,.int .i64 p.fr,vw,vc]∧RowsAt W 4 vp p.ps∧WinsAt W vw p.ws∧RowsAt W 5 vc p.cs
theorem RowsAt.below {W W':World} {sz:Nat} {v:Value} {l:List (List Int)} (h:RowsAt W sz v l) (hb:Below W.heap.size W W'):RowsAt W' sz v l:=by
 obtain ⟨a,c,rfl,hn,h|⟨b,off,rfl,hlt,hc⟩⟩:=h
 · exact ⟨a,c,rfl,hn,.inl h⟩
 · exact ⟨_,c,rfl,hn,.inr ⟨b,off,rfl,Nat.lt_of_lt_of_le hlt hb.size,fun i j hi hj=> (hb.cell (p:=⟨b,off + i * sz + j,none⟩) hlt).trans (hc i j hi hj)⟩⟩
theorem WinsAt.below {W W':World} {v:Value} {ws:List (List (List Int))} (h:WinsAt W v ws) (hb:Below W.heap.size W W'):WinsAt W' v ws:=by
 obtain ⟨a,c,rfl,hn,h|⟨b,off,rfl,hlt,hc⟩⟩:=h
 · exact ⟨a,c,rfl,hn,.inl h⟩
 · refine ⟨_,c,rfl,hn,.inr ⟨b,off,rfl,Nat.lt_of_lt_of_le hlt hb.size,fun i hi=> ?_⟩⟩
   obtain ⟨u,hu,hr⟩:=hc i hi
   exact ⟨u,(hb.cell (p:=⟨b,off + i,none⟩) hlt).trans hu,hr.below hb⟩
theorem PlanAt.below {W W':World} {v:Value} {p:Pl.Plan} (h:PlanAt W v p) (hb:Below W.heap.size W W'):PlanAt W' v p:=by
 obtain ⟨vp,vw,vc,rfl,h1,h2,h3⟩:=h
 exact ⟨vp,vw,vc,rfl,h1.below hb,h2.below hb,h3.below hb⟩
def Found (any:Bool) (w:World) (e:Ending) (w':World):Prop:=∃ r:Int,e=.returned (.int .i64 r)∧decide (0≤r)=any∧Below w.heap.size w w'
def Seek (α:Type) (w:World) (l:List α) (pr:α→Bool) (v:Value) (wr:World):Prop:=∃ k:Nat,k≤l.length∧v=.int .i64 k∧Below w.heap.size w wr∧l.any pr=(l.drop k).any pr
theorem seek_hit {α:Type} {l:List α} {pr:α→Bool} {k:Nat} {x:α} (hk:k<l.length) (hx:l[k]? =some x) (hany:l.any pr=(l.drop k).any pr) (h:pr x=true):l.any pr=true:=by
 rw [hany,List.drop_eq_getElem_cons hk,List.any_cons]
 rw [List.getElem?_eq_getElem hk] at hx
 injection hx with hx
 rw [hx,h]
 rfl
theorem seek_miss {α:Type} {l:List α} {pr:α→Bool} {k:Nat} {x:α} (hk:k<l.length) (hx:l[k]? =some x) (hany:l.any pr=(l.drop k).any pr) (h:pr x=false):l.any pr=(l.drop (k + 1)).any pr:=by
 rw [hany,List.drop_eq_getElem_cons hk,List.any_cons]
 rw [List.getElem?_eq_getElem hk] at hx
 injection hx with hx
 rw [hx,h]
 rfl
theorem seek_end {α:Type} {l:List α} {pr:α→Bool} {k:Nat} (hk:¬ k<l.length) (hany:l.any pr=(l.drop k).any pr):l.any pr=false:=by
 rw [hany,List.drop_of_length_le (by omega)]
 rfl
theorem getD_some {α:Type} {l:List α} {k:Nat} {d:α} (h:k<l.length):l[k]? =some (l.getD k d):=by
 rw [List.getD_eq_getElem?_getD,List.getElem?_eq_getElem h]
 rfl
end Go.Proofs.YthgehdghihbiaaaGreatDoor
namespace Go.Proofs.YthgehdghihbiaaaGreatDoor
open Go.RowKit
namespace Plan
theorem odd (x:Int) (w:World):Calls Tryz.prog 83 #[.int .i64 x] w (Is (.bool (Pl.odd x)) w):=by
 go_enter Tryz.func83,Tryz.ntmps83
 go_wp2
 all_goals (go_ret;refine is_bool ?_)
 all_goals (unfold Pl.odd;simp;try omega)
theorem many (a:Option Addr) (n c:Nat) (w:World) (hn:n≤9223372036854775807):Calls Tryz.prog 47 #[.slice a n c] w (Is (.bool (decide (8<n))) w):=by
 go_enter Tryz.func47,Tryz.ntmps47
 go_wp2
 all_goals (go_ret;refine is_bool ?_)
 all_goals (simp;try omega)
theorem idx3 (b:Nat) (x y z:Int) (w:World) (c0:w.cell? ⟨b,1,none⟩=some (.int .i64 x)) (c1:w.cell? ⟨b,2,none⟩=some (.int .i64 y)) (c2:w.cell? ⟨b,3,none⟩=some (.int .i64 z)):
 Calls Tryz.prog 100 #[.slice (some ⟨b,1,none⟩) 3 3,.func (.func 83) #[] #[]] w (Found (Pl.odd3 x y z) w):=by
 cases hx:Pl.odd x
 · cases hy:Pl.odd y
   · cases hz:Pl.odd z
     all_goals
      have H:Hid (Pl.odd3 x y z=_):=hU (show Pl.odd3 x y z=(Pl.odd x||(Pl.odd y||Pl.odd z)) from rfl)
      go_enter Tryz.func100,Tryz.ntmps100
      repeat' (first|go_values|go_skip|go_guarded|(with_reducible refine wg ?_)|go_step|go_upon)
      refine wp_loop_rounds 4 ?_
      rw [rounds_succ]
      go_wp2_with (go_at_call 83;refine (odd _ _).mono ?_;rintro e w' ⟨rfl,rfl⟩)
      rw [rounds_succ]
      go_wp2_with (go_at_call 83;refine (odd _ _).mono ?_;rintro e w' ⟨rfl,rfl⟩)
      rw [rounds_succ]
      go_wp2_with (go_at_call 83;refine (odd _ _).mono ?_;rintro e w' ⟨rfl,rfl⟩)
      try (rw [rounds_succ];go_wp2_with fail)
      go_ret
      exact ⟨_,rfl,by rw [H.out,hx,hy,hz];rfl,bel⟩
   · have H:Hid (Pl.odd3 x y z=_):=hU (show Pl.odd3 x y z=(Pl.odd x||(Pl.odd y||Pl.odd z)) from rfl)
     go_enter Tryz.func100,Tryz.ntmps100
     repeat' (first|go_values|go_skip|go_guarded|(with_reducible refine wg ?_)|go_step|go_upon)
     refine wp_loop_rounds 4 ?_
     rw [rounds_succ]
     go_wp2_with (go_at_call 83;refine (odd _ _).mono ?_;rintro e w' ⟨rfl,rfl⟩)
     rw [rounds_succ]
     go_wp2_with (go_at_call 83;refine (odd _ _).mono ?_;rintro e w' ⟨rfl,rfl⟩)
     go_ret
     exact ⟨_,rfl,by rw [H.out,hx,hy];rfl,bel⟩
 · have H:Hid (Pl.odd3 x y z=_):=hU (show Pl.odd3 x y z=(Pl.odd x||(Pl.odd y||Pl.odd z)) from rfl)
   go_enter Tryz.func100,Tryz.ntmps100
   repeat' (first|go_values|go_skip|go_guarded|(with_reducible refine wg ?_)|go_step|go_upon)
   refine wp_loop_rounds 4 ?_
   rw [rounds_succ]
   go_wp2_with (go_at_call 83;refine (odd _ _).mono ?_;rintro e w' ⟨rfl,rfl⟩)
   go_ret
   exact ⟨_,rfl,by rw [H.out,hx];rfl,bel⟩
theorem cont3 (b:Nat) (x y z:Int) (w:World) (c0:w.cell? ⟨b,1,none⟩=some (.int .i64 x)) (c1:w.cell? ⟨b,2,none⟩=some (.int .i64 y)) (c2:w.cell? ⟨b,3,none⟩=some (.int .i64 z)):
 Calls Tryz.prog 84 #[.slice (some ⟨b,1,none⟩) 3 3,.func (.func 83) #[] #[]] w (Gives (.bool (Pl.odd3 x y z)) w):=by
 go_enter Tryz.func84,Tryz.ntmps84
 repeat' (first|go_values|go_skip|go_guarded|(with_reducible refine wg ?_)|go_step|go_upon)
 refine (idx3 b x y z w c0 c1 c2).mono ?_
 rintro e w1 ⟨r,rfl,hr,hb⟩
 have HR:=hU hr
 clear hr
 dsimp only
 repeat' (first|go_values|go_skip|go_guarded|(with_reducible refine wg ?_)|go_step|go_upon)
 all_goals go_ret
 all_goals exact gives_bool HR.out bel
theorem part (m a b c:Int) (w:World):Calls Tryz.prog 51 #[.agg #[.int .i64 m,.int .i64 a,.int .i64 b,.int .i64 c]] w (Gives (.bool (Pl.partB [m,a,b,c])) w):=by
 go_enter Tryz.func51,Tryz.ntmps51
 repeat' (first|(go_at_call 84;refine (cont3 _ a b c _ (by go_simp) (by go_simp) (by go_simp)).mono ?_;rintro e w1 ⟨rfl,hb1⟩;dsimp only)|go_values|go_skip|go_guarded|(with_reducible refine wg ?_)|go_step|go_upon)
 all_goals go_ret
 all_goals refine gives_bool ?_ bel
 all_goals (show _=(decide (64≤m) && (decide (m≤1024) && ((m % 4==0) && !Pl.odd3 a b c)));first|(simp [*];done)|(simp_all;done)|grind)
theorem notPart (m a b c:Int) (w:World):Calls Tryz.prog 50 #[.agg #[.int .i64 m,.int .i64 a,.int .i64 b,.int .i64 c]] w (Gives (.bool (!Pl.partB [m,a,b,c])) w):=by
 go_enter Tryz.func50,Tryz.ntmps50
 repeat' (first|(go_at_call 51;refine (part _ _ _ _ _).mono ?_;rintro e w1 ⟨rfl,hb1⟩;dsimp only)|go_values|go_skip|go_guarded|(with_reducible refine wg ?_)|go_step|go_upon)
 all_goals go_ret
 all_goals exact gives_bool rfl bel
theorem idxP (v:Value) (l:List (List Int)) (w:World) (h:RowsAt w 4 v l):
 Calls Tryz.prog 82 #[v,.func (.func 50) #[] #[]] w (Found (l.any (fun r=> !Pl.partB r)) w):=by
 obtain ⟨a,c,rfl,hn,hc⟩:=h
 have HC:=hU hc
 clear hc
 go_enter Tryz.func82,Tryz.ntmps82
 repeat' (first|go_values|go_skip|go_guarded|(with_reducible refine wg ?_)|go_step|go_upon)
 go_loopw [8] (fun v wr=> Seek (List Int) w l (fun r=> !Pl.partB r) v wr) (fun v _=> l.length - (intOf v).toNat)
 case atStart=> exact ⟨0,Nat.zero_le _,rfl,Below.refl _ _,by rw [List.drop_zero]⟩
 case round=>
  obtain ⟨k,hk,rfl,hb,hany⟩:=hrel
  have HB:=hU hb
  have HA:=hU hany
  clear hb hany
  by_cases hlt:k<l.length
  · obtain hnil|⟨b,off,rfl,hbl,hcell⟩:=HC.out
    · rw [hnil] at hlt;exact absurd hlt (Nat.not_lt_zero _)
    have at_:=fun j hj=> (HB.out.cell (p:=⟨b,off + k * 4 + j,none⟩) hbl).trans (hcell k j hlt hj)
    have c0:=at_ 0 (by omega)
    have c1:=at_ 1 (by omega)
    have c2:=at_ 2 (by omega)
    have c3:=at_ 3 (by omega)
    rw [Nat.add_zero] at c0
    have hx:=hU (getD_some (d:=[]) hlt)
    generalize l.getD k []=r at c0 c1 c2 c3 hx
    clear at_ hcell
    cases hp:Pl.partB r
    all_goals
     have HP:=hU hp
     clear hp
     repeat' (first|go_values|go_skip|go_guarded|(with_reducible refine wg ?_)|go_step|go_upon)
     refine (notPart (Pl.g r 0) (Pl.g r 1) (Pl.g r 2) (Pl.g r 3) _).mono ?_
     rintro e w1 ⟨rfl,hb1⟩
     rw [show Pl.partB [Pl.g r 0,Pl.g r 1,Pl.g r 2,Pl.g r 3]=Pl.partB r from rfl,HP.out]
     dsimp only
     repeat' (first|go_values|go_skip|go_guarded|(with_reducible refine wg ?_)|go_step|go_upon)
    · go_ret
      have hB:=HB.out
      exact ⟨_,rfl,by rw [seek_hit hlt hx.out HA.out (by simp [HP.out])];simp,bel⟩
    · have hB:=HB.out
      exact ⟨⟨k + 1,by omega,by go_num,bel,seek_miss hlt hx.out HA.out (by simp [HP.out])⟩,by simp [intOf];omega⟩
  · repeat' (first|go_values|go_skip|go_guarded|(with_reducible refine wg ?_)|go_step|go_upon)
    go_ret
    have hB:=HB.out
    exact ⟨_,rfl,by rw [seek_end hlt HA.out];rfl,bel⟩
theorem contP (v:Value) (l:List (List Int)) (w:World) (h:RowsAt w 4 v l):
 Calls Tryz.prog 49 #[v,.func (.func 50) #[] #[]] w (Gives (.bool (l.any (fun r=> !Pl.partB r))) w):=by
 go_enter Tryz.func49,Tryz.ntmps49
 repeat' (first|go_values|go_skip|go_guarded|(with_reducible refine wg ?_)|go_step|go_upon)
 refine (idxP v l w h).mono ?_
 rintro e w1 ⟨r,rfl,hr,hb⟩
 have HR:=hU hr
 clear hr
 dsimp only
 repeat' (first|go_values|go_skip|go_guarded|(with_reducible refine wg ?_)|go_step|go_upon)
 all_goals go_ret
 all_goals exact gives_bool HR.out bel
theorem idxW (v:Value) (ws:List (List (List Int))) (w:World) (h:WinsAt w v ws):
 Calls Tryz.prog 81 #[v,.func (.func 47) #[] #[]] w (Found (ws.any (fun l=> decide (8<l.length))) w):=by
 obtain ⟨a,c,rfl,hn,hc⟩:=h
 have HC:=hU hc
 clear hc
 go_enter Tryz.func81,Tryz.ntmps81
 repeat' (first|go_values|go_skip|go_guarded|(with_reducible refine wg ?_)|go_step|go_upon)
 go_loopw [8] (fun v wr=> Seek (List (List Int)) w ws (fun l=> decide (8<l.length)) v wr) (fun v _=> ws.length - (intOf v).toNat)
 case atStart=> exact ⟨0,Nat.zero_le _,rfl,Below.refl _ _,by rw [List.drop_zero]⟩
 case round=>
  obtain ⟨k,hk,rfl,hb,hany⟩:=hrel
  have HB:=hU hb
  have HA:=hU hany
  clear hb hany
  by_cases hlt:k<ws.length
  · obtain hnil|⟨b,off,rfl,hbl,hcell⟩:=HC.out
    · rw [hnil] at hlt;exact absurd hlt (Nat.not_lt_zero _)
    obtain ⟨u,hu,a',c',rfl,hn',_⟩:=hcell k hlt
    have c0:=(HB.out.cell (p:=⟨b,off + k,none⟩) hbl).trans hu
    have hx:=hU (getD_some (d:=[]) hlt)
    generalize ws.getD k []=r at c0 hx hn'
    clear hcell hu
    by_cases hp:8<r.length
    all_goals
     have HP:=hU hp
     repeat' (first|go_values|go_skip|go_guarded|(with_reducible refine wg ?_)|go_step|go_upon)
     refine (many _ r.length _ _ hn').mono ?_
     rintro e w1 ⟨rfl,rfl⟩
     dsimp only
     repeat' (first|go_values|go_skip|go_guarded|(with_reducible refine wg ?_)|go_step|go_upon)
    · go_ret
      have hB:=HB.out
      exact ⟨_,rfl,by rw [seek_hit hlt hx.out HA.out (by simpa using HP.out)];simp,bel⟩
    · have hB:=HB.out
      exact ⟨⟨k + 1,by omega,by go_num,bel,seek_miss hlt hx.out HA.out (by simpa using HP.out)⟩,by simp [intOf];omega⟩
  · repeat' (first|go_values|go_skip|go_guarded|(with_reducible refine wg ?_)|go_step|go_upon)
    go_ret
    have hB:=HB.out
    exact ⟨_,rfl,by rw [seek_end hlt HA.out];rfl,bel⟩
theorem contW (v:Value) (ws:List (List (List Int))) (w:World) (h:WinsAt w v ws):
 Calls Tryz.prog 48 #[v,.func (.func 47) #[] #[]] w (Gives (.bool (ws.any (fun l=> decide (8<l.length)))) w):=by
 go_enter Tryz.func48,Tryz.ntmps48
 repeat' (first|go_values|go_skip|go_guarded|(with_reducible refine wg ?_)|go_step|go_upon)
 refine (idxW v ws w h).mono ?_
 rintro e w1 ⟨r,rfl,hr,hb⟩
 have HR:=hU hr
 clear hr
 dsimp only
 repeat' (first|go_values|go_skip|go_guarded|(with_reducible refine wg ?_)|go_step|go_upon)
 all_goals go_ret
 all_goals exact gives_bool HR.out bel
theorem channel (a:Option Addr) (np cp:Nat) (fr k f t s d:Int) (vw vc:Value) (w:World) (hn:np≤9223372036854775807):
 Calls Tryz.prog 55 #[.agg #[.slice a np cp,.int .i64 fr,vw,vc],.agg #[.int .i64 k,.int .i64 f,.int .i64 t,.int .i64 s,.int .i64 d]] w (Gives (.bool (Pl.chanB np [k,f,t,s,d])) w):=by
 by_cases h1:k=1
 · subst h1
   go_enter Tryz.func55,Tryz.ntmps55
   repeat' (first|go_values|go_skip|go_guarded|(with_reducible refine wg ?_)|go_step|go_upon|go_quiet (fail))
   all_goals go_ret
   all_goals refine gives_bool ?_ bel
   all_goals (unfold Pl.chanB;simp only [Pl.g,List.getD_cons_zero,List.getD_cons_succ];rw [Bool.eq_iff_iff];simp;try omega)
 · by_cases h2:k=2
   · subst h2
     go_enter Tryz.func55,Tryz.ntmps55
     repeat' (first|go_values|go_skip|go_guarded|(with_reducible refine wg ?_)|go_step|go_upon|go_quiet (fail))
     all_goals go_ret
     all_goals refine gives_bool ?_ bel
     all_goals (unfold Pl.chanB;simp only [Pl.g,List.getD_cons_zero,List.getD_cons_succ];rw [Bool.eq_iff_iff];simp;try omega)
   · have h1':(k==1)=false:=by simpa using h1
     have h2':(k==2)=false:=by simpa using h2
     go_enter Tryz.func55,Tryz.ntmps55
     repeat' (first|go_values|go_skip|go_guarded|(with_reducible refine wg ?_)|go_step|go_upon|go_quiet (fail))
     all_goals go_ret
     all_goals refine gives_bool ?_ bel
     all_goals (unfold Pl.chanB;simp only [Pl.g,List.getD_cons_zero,List.getD_cons_succ];rw [Bool.eq_iff_iff];simp;try omega)
def PlanCell (W:World) (bp:Nat) (vp:Value) (fr:Int) (vw vc:Value):Prop:=
 bp<W.heap.size∧W.cell? ⟨bp,0,none⟩=some vp∧W.cell? ⟨bp,1,none⟩=some (.int .i64 fr)∧W.cell? ⟨bp,2,none⟩=some vw∧W.cell? ⟨bp,3,none⟩=some vc
theorem PlanCell.below {W W':World} {bp:Nat} {vp vw vc:Value} {fr:Int} (h:PlanCell W bp vp fr vw vc) (hb:Below W.heap.size W W'):PlanCell W' bp vp fr vw vc:=by
 obtain ⟨hl,h0,h1,h2,h3⟩:=h
 exact ⟨Nat.lt_of_lt_of_le hl hb.size,(hb.cell (p:=⟨bp,0,none⟩) hl).trans h0,(hb.cell (p:=⟨bp,1,none⟩) hl).trans h1,(hb.cell (p:=⟨bp,2,none⟩) hl).trans h2,(hb.cell (p:=⟨bp,3,none⟩) hl).trans h3⟩
theorem notChan (bp:Nat) (a:Option Addr) (np cp:Nat) (fr k f t s d:Int) (c2 c3:Option Addr) (n2 n3 m2 m3:Nat) (w:World) (hn:np≤9223372036854775807) (hP:PlanCell w bp (.slice a np cp) fr (.slice c2 n2 m2) (.slice c3 n3 m3)):
 Calls Tryz.prog 54 #[.agg #[.int .i64 k,.int .i64 f,.int .i64 t,.int .i64 s,.int .i64 d],.pointer (some ⟨bp,0,none⟩)] w (Gives (.bool (!Pl.chanB np [k,f,t,s,d])) w):=by
 obtain ⟨hl,h0,h1,h2,h3⟩:=hP
 go_enter Tryz.func54,Tryz.ntmps54
 repeat' (first|(go_at_call 55;refine (channel a np cp fr k f t s d _ _ _ hn).mono ?_;rintro e w1 ⟨rfl,hb1⟩;dsimp only)|go_values|go_skip|go_guarded|(with_reducible refine wg ?_)|go_step|go_upon)
 all_goals go_ret
 all_goals exact gives_bool rfl bel
theorem idxC (bp:Nat) (pa:Option Addr) (np cp:Nat) (fr:Int) (c2' c3':Option Addr) (n2 n3 m2 m3:Nat) (hnp:np≤9223372036854775807) (v:Value) (l:List (List Int)) (w:World) (hP:PlanCell w bp (.slice pa np cp) fr (.slice c2' n2 m2) (.slice c3' n3 m3)) (h:RowsAt w 5 v l):
 Calls Tryz.prog 85 #[v,.func (.func 54) #[] #[.pointer (some ⟨bp,0,none⟩)]] w (Found (l.any (fun r=> !Pl.chanB np r)) w):=by
 obtain ⟨a,c,rfl,hn,hc⟩:=h
 have HC:=hU hc
 have HPC:=hU hP
 clear hc hP
 go_enter Tryz.func85,Tryz.ntmps85
 repeat' (first|go_values|go_skip|go_guarded|(with_reducible refine wg ?_)|go_step|go_upon)
 go_loopw [8] (fun v wr=> Seek (List Int) w l (fun r=> !Pl.chanB np r) v wr) (fun v _=> l.length - (intOf v).toNat)
 case atStart=> exact ⟨0,Nat.zero_le _,rfl,Below.refl _ _,by rw [List.drop_zero]⟩
 case round=>
  obtain ⟨k,hk,rfl,hb,hany⟩:=hrel
  have HB:=hU hb
  have HA:=hU hany
  clear hb hany
  by_cases hlt:k<l.length
  · obtain hnil|⟨b,off,rfl,hbl,hcell⟩:=HC.out
    · rw [hnil] at hlt;exact absurd hlt (Nat.not_lt_zero _)
    have at_:=fun j hj=> (HB.out.cell (p:=⟨b,off + k * 5 + j,none⟩) hbl).trans (hcell k j hlt hj)
    have c0:=at_ 0 (by omega)
    have c1:=at_ 1 (by omega)
    have c2:=at_ 2 (by omega)
    have c3:=at_ 3 (by omega)
    have c4:=at_ 4 (by omega)
    rw [Nat.add_zero] at c0
    have hx:=hU (getD_some (d:=[]) hlt)
    generalize l.getD k []=r at c0 c1 c2 c3 c4 hx
    clear at_ hcell
    cases hp:Pl.chanB np r
    all_goals
     have HP:=hU hp
     clear hp
     repeat' (first|go_values|go_skip|go_guarded|(with_reducible refine wg ?_)|go_step|go_upon)
     refine (notChan bp pa np cp fr (Pl.g r 0) (Pl.g r 1) (Pl.g r 2) (Pl.g r 3) (Pl.g r 4) _ _ _ _ _ _ _ hnp (HPC.out.below HB.out)).mono ?_
     rintro e w1 ⟨rfl,hb1⟩
     rw [show Pl.chanB np [Pl.g r 0,Pl.g r 1,Pl.g r 2,Pl.g r 3,Pl.g r 4]=Pl.chanB np r from rfl,HP.out]
     dsimp only
     repeat' (first|go_values|go_skip|go_guarded|(with_reducible refine wg ?_)|go_step|go_upon)
    · go_ret
      have hB:=HB.out
      exact ⟨_,rfl,by rw [seek_hit hlt hx.out HA.out (by simp [HP.out])];simp,bel⟩
    · have hB:=HB.out
      exact ⟨⟨k + 1,by omega,by go_num,bel,seek_miss hlt hx.out HA.out (by simp [HP.out])⟩,by simp [intOf];omega⟩
  · repeat' (first|go_values|go_skip|go_guarded|(with_reducible refine wg ?_)|go_step|go_upon)
    go_ret
    have hB:=HB.out
    exact ⟨_,rfl,by rw [seek_end hlt HA.out];rfl,bel⟩
theorem contC (bp:Nat) (pa:Option Addr) (np cp:Nat) (fr:Int) (c2' c3':Option Addr) (n2 n3 m2 m3:Nat) (hnp:np≤9223372036854775807) (v:Value) (l:List (List Int)) (w:World) (hP:PlanCell w bp (.slice pa np cp) fr (.slice c2' n2 m2) (.slice c3' n3 m3)) (h:RowsAt w 5 v l):
 Calls Tryz.prog 53 #[v,.func (.func 54) #[] #[.pointer (some ⟨bp,0,none⟩)]] w (Gives (.bool (l.any (fun r=> !Pl.chanB np r))) w):=by
 have HPC:=hU hP
 clear hP
 go_enter Tryz.func53,Tryz.ntmps53
 repeat' (first|go_values|go_skip|go_guarded|(with_reducible refine wg ?_)|go_step|go_upon)
 refine (idxC bp pa np cp fr _ _ _ _ _ _ hnp v l w HPC.out h).mono ?_
 rintro e w1 ⟨r,rfl,hr,hb⟩
 have HR:=hU hr
 clear hr
 dsimp only
 repeat' (first|go_values|go_skip|go_guarded|(with_reducible refine wg ?_)|go_step|go_upon)
 all_goals go_ret
 all_goals exact gives_bool HR.out bel
theorem window (a:Option Addr) (np cp:Nat) (fr p f n behind:Int) (vw vc:Value) (w:World) (hn:np≤9223372036854775807) (hfr:fr≤9223372036854775807):
 Calls Tryz.prog 52 #[.agg #[.slice a np cp,.int .i64 fr,vw,vc],.agg #[.int .i64 p,.int .i64 f,.int .i64 n],.int .i64 behind] w (Gives (.int .i64 (Pl.winE np fr [p,f,n] behind)) w):=by
 by_cases h1:n≤2∨fr<n
 · rcases h1 with h1|h1
   all_goals
    go_enter Tryz.func52,Tryz.ntmps52
    repeat' (first|go_values|go_skip|go_guarded|(with_reducible refine wg ?_)|go_step|go_upon|go_quiet (fail))
    all_goals go_ret
    all_goals refine gives_int ?_ bel
    all_goals (unfold Pl.winE;simp only [Pl.g,List.getD_cons_zero,List.getD_cons_succ];first|(rw [if_pos (by omega)];done)|(rw [if_neg (by omega),if_pos (by omega)];done)|(rw [if_neg (by omega),if_neg (by omega)];done))
 · have h2:2<n:=by omega
   have h3:n≤fr:=by omega
   go_enter Tryz.func52,Tryz.ntmps52
   repeat' (first|go_values|go_skip|go_guarded|(with_reducible refine wg ?_)|go_step|go_upon|go_quiet (fail))
   all_goals go_ret
   all_goals refine gives_int ?_ bel
   all_goals (unfold Pl.winE;simp only [Pl.g,List.getD_cons_zero,List.getD_cons_succ];first|(rw [if_pos (by omega)];done)|(rw [if_neg (by omega),if_pos (by omega)];done)|(rw [if_neg (by omega),if_neg (by omega)];done))
theorem winsE_step {np fr:Int} {ws:List (List (List Int))} {k:Nat} (hk:k<ws.length) (h:Pl.rowE np fr (ws.getD k []) 0=0):Pl.winsE np fr (ws.drop k)=Pl.winsE np fr (ws.drop (k + 1)):=by
 rw [List.getD_eq_getElem?_getD,List.getElem?_eq_getElem hk,Option.getD_some] at h
 rw [List.drop_eq_getElem_cons hk,Pl.winsE,if_pos h]
theorem winsE_stop {np fr:Int} {ws:List (List (List Int))} {k:Nat} (hk:k<ws.length) (h:Pl.rowE np fr (ws.getD k []) 0 ≠ 0):Pl.winsE np fr (ws.drop k)=Pl.rowE np fr (ws.getD k []) 0:=by
 rw [List.getD_eq_getElem?_getD,List.getElem?_eq_getElem hk,Option.getD_some] at h ⊢
 rw [List.drop_eq_getElem_cons hk,Pl.winsE,if_neg h]
theorem rowE_step {np fr b:Int} {l:List (List Int)} {k:Nat} (hk:k<l.length) (h:Pl.winE np fr (l.getD k []) b=0):Pl.rowE np fr (l.drop k) b=Pl.rowE np fr (l.drop (k + 1)) (Pl.g (l.getD k []) 1 + Pl.g (l.getD k []) 2):=by
 rw [List.getD_eq_getElem?_getD,List.getElem?_eq_getElem hk,Option.getD_some] at h ⊢
 rw [List.drop_eq_getElem_cons hk,Pl.rowE,if_pos h]
theorem rowE_stop {np fr b:Int} {l:List (List Int)} {k:Nat} (hk:k<l.length) (h:Pl.winE np fr (l.getD k []) b ≠ 0):Pl.rowE np fr (l.drop k) b=Pl.winE np fr (l.getD k []) b:=by
 rw [List.getD_eq_getElem?_getD,List.getElem?_eq_getElem hk,Option.getD_some] at h ⊢
 rw [List.drop_eq_getElem_cons hk,Pl.rowE,if_neg h]
theorem winE_end {np fr b:Int} {r:List Int} (h:Pl.winE np fr r b=0):0≤Pl.g r 1∧2<Pl.g r 2∧Pl.g r 1 + Pl.g r 2≤fr:=by
 unfold Pl.winE at h
 split at h
 · omega
 · omega
theorem check_mid {ps cs:List (List Int)} {fr:Int} {ws:List (List (List Int))} (h4:ps.length≤4) (h3:ws.length≤3) (h6:cs.length≤6) (HA:ws.any (fun l=> decide (8<l.length))=false) (hne1:¬ ps=[]) (hne2:¬ ws=[]) (HB:ps.any (fun r=> !Pl.partB r)=false) (hf1:1≤fr) (hfr2:fr≤4096):
 Pl.check ⟨ps,fr,ws,cs⟩=if Pl.winsE ps.length fr ws ≠ 0 then Pl.winsE ps.length fr ws else if cs.any (fun r=> !Pl.chanB ps.length r)=true then 1 else 0:=by
 unfold Pl.check
 rw [if_neg (by simp only [HA];simp;omega),if_neg (by simp [hne1,hne2]),if_neg (by simp only [HB];simp;omega)]
def Outer (np fr:Int) (ws:List (List (List Int))) (vp vw vc:Value) (w:World) (v:Value) (wr:World):Prop:=
 ∃ k:Nat,k≤ws.length∧v=.int .i64 k∧Below w.heap.size w wr∧PlanCell wr w.heap.size vp fr vw vc∧Pl.winsE np fr ws=Pl.winsE np fr (ws.drop k)
def Inner (np fr:Int) (l:List (List Int)) (vp vw vc:Value) (w:World) (vb v:Value) (wr:World):Prop:=
 ∃ (k:Nat) (b:Int),k≤l.length∧v=.int .i64 k∧vb=.int .i64 b∧0≤b∧b≤fr∧Below w.heap.size w wr∧PlanCell wr w.heap.size vp fr vw vc∧Pl.rowE np fr l 0=Pl.rowE np fr (l.drop k) b
theorem CheckIn (w:World) (ps:List (List Int)) (fr:Int) (ws:List (List (List Int))) (cs:List (List Int)) (ap aw ac:Option Addr) (cp cw cc:Nat)
 (HP:Hid (RowsAt w 4 (.slice ap ps.length cp) ps)) (HW:Hid (WinsAt w (.slice aw ws.length cw) ws)) (HC:Hid (RowsAt w 5 (.slice ac cs.length cc) cs))
 (h4:ps.length≤4) (h3:ws.length≤3) (h6:cs.length≤6) (HA:Hid (ws.any (fun l=> decide (8<l.length))=false)) (hne1:¬ ps=[]) (hne2:¬ ws=[]) (HB:Hid (ps.any (fun r=> !Pl.partB r)=false)) (hfr1:1≤fr) (hfr2:fr≤4096):
 Calls Tryz.prog 28 #[.agg #[.slice ap ps.length cp,.int .i64 fr,.slice aw ws.length cw,.slice ac cs.length cc]] w (Gives (.int .i64 (Pl.check ⟨ps,fr,ws,cs⟩)) w):=by
 go_enter Tryz.func28,Tryz.ntmps28
 repeat' (first|(go_at_call 48;refine (contW _ _ _ (HW.out.below bel)).mono ?_;rintro e w1 ⟨rfl,hb1⟩;obtain ⟨hc1,hf1,hz1⟩:=bfacts hb1;simp at hz1;have y0:w.heap.size<w1.heap.size:=(by omega);rw [HA.out];dsimp only)|(go_at_call 49;refine (contP _ ps _ (HP.out.below bel)).mono ?_;rintro e w2 ⟨rfl,hb2⟩;obtain ⟨hc2,hfz2,hz2'⟩:=bfacts hb2;have y1:w.heap.size<w2.heap.size:=(by omega);rw [HB.out];dsimp only)|go_values|go_skip|go_guarded|(with_reducible refine wg ?_)|go_step|go_upon|go_quiet (fail))
 all_goals try (exfalso;rename_i hh;simp [hne1,hne2] at hh;done)
 have hPC:PlanCell w2 w.heap.size (.slice ap ps.length cp) fr (.slice aw ws.length cw) (.slice ac cs.length cc):=⟨by omega,by go_simp,by go_simp,by go_simp,by go_simp⟩
 have hB2:Below w.heap.size w w2:=bel
 go_loopw [61] (fun v wr=> Outer ps.length fr ws (.slice ap ps.length cp) (.slice aw ws.length cw) (.slice ac cs.length cc) w v wr) (fun v _=> ws.length - (intOf v).toNat)
 case atStart=> exact ⟨0,Nat.zero_le _,rfl,hB2,hPC,by rw [List.drop_zero]⟩
 case round=>
  obtain ⟨k,hk,rfl,hb,hpc,hwe⟩:=hrel
  have HBl:=hU hb
  have HPC:=hU hpc
  have HWE:=hU hwe
  by_cases hlt:k<ws.length
  · obtain ⟨hl0,p0,p1,p2,p3⟩:=HPC.out
    obtain ⟨a',c',hav,hn',hnil|⟨b,off,rfl,hbl,hcell⟩⟩:=HW.out
    · rw [hnil] at hlt;exact absurd hlt (Nat.not_lt_zero _)
    obtain ⟨u,hu,hrow⟩:=hcell k hlt
    cases hav
    have HROW:=hU hrow
    obtain ⟨a3,c3,rfl,hn3,_⟩:=hrow
    have c0:=(HBl.out.cell (p:=⟨b,off + k,none⟩) hbl).trans hu
    have HSTEP:=hU (fun h=> (hwe.trans (winsE_step hlt h):Pl.winsE ps.length fr ws=_))
    have HSTOP:=hU (fun h=> (hwe.trans (winsE_stop hlt h):Pl.winsE ps.length fr ws=_))
    clear hcell hu hwe hb hpc
    generalize ws.getD k []=row at *
    repeat' (first|go_values|go_skip|go_guarded|(with_reducible refine wg ?_)|go_step|go_upon|go_quiet (fail))
    obtain ⟨wo,rfl⟩:∃ wo:World,wo=wr:=⟨_,rfl⟩
    go_loopw [6,67] (fun vb v wi=> Inner ps.length fr row (.slice ap ps.length cp) (.slice (some ⟨b,off,none⟩) ws.length cw) (.slice ac cs.length cc) w vb v wi) (fun _ v _=> row.length - (intOf v).toNat)
    case atStart=> exact ⟨0,0,Nat.zero_le _,rfl,rfl,Int.le_refl _,by omega,HBl.out,HPC.out,by rw [List.drop_zero]⟩
    case round=>
     obtain ⟨j,bh,hj,rfl,rfl,hb0,hbf,hbi,hpi,hre⟩:=hrel
     have HBI:=hU hbi
     have HPI:=hU hpi
     obtain ⟨hl1,q0,q1,q2,q3⟩:=hpi
     by_cases hjl:j<row.length
     · obtain ⟨a4,c4,hav,hn4,hnil|⟨b3,off3,rfl,hbl3,hcell3⟩⟩:=HROW.out
       · rw [hnil] at hjl;exact absurd hjl (Nat.not_lt_zero _)
       cases hav
       have at_:=fun i hi=> (HBI.out.cell (p:=⟨b3,off3 + j * 3 + i,none⟩) hbl3).trans (hcell3 j i hjl hi)
       have d0:=at_ 0 (by omega)
       have d1:=at_ 1 (by omega)
       have d2:=at_ 2 (by omega)
       rw [Nat.add_zero] at d0
       have HNEXT:=hU (fun h=> (hre.trans (rowE_step hjl h):Pl.rowE ps.length fr row 0=_))
       have HHALT:=hU (fun h=> (hre.trans (rowE_stop hjl h):Pl.rowE ps.length fr row 0=_))
       clear at_ hcell3 hbi hre
       generalize row.getD j []=r at *
       repeat' (first|go_values|go_skip|go_guarded|(with_reducible refine wg ?_)|go_step|go_upon|go_quiet (fail))
       by_cases hw0:Pl.winE ps.length fr r bh=0
       · have hend:=winE_end hw0
         refine (window ap ps.length cp fr (Pl.g r 0) (Pl.g r 1) (Pl.g r 2) bh _ _ _ (by omega) (by omega)).mono ?_
         rintro e w5 ⟨rfl,hb5⟩
         obtain ⟨hc5,hfz5,hz5⟩:=bfacts hb5
         simp at hz5
         have y5:w.heap.size<w5.heap.size:=by omega
         have y6:wr.heap.size<w5.heap.size:=by omega
         rw [show Pl.winE ps.length fr [Pl.g r 0,Pl.g r 1,Pl.g r 2] bh=Pl.winE ps.length fr r bh from rfl,hw0]
         have hsum1: -9223372036854775808≤Pl.g r 1 + Pl.g r 2:=by omega
         have hsum2:Pl.g r 1 + Pl.g r 2≤9223372036854775807:=by omega
         dsimp only
         repeat' (first|go_values|go_skip|go_guarded|(with_reducible refine wg ?_)|go_step|go_upon|go_quiet (fail))
         have hB:=HBI.out
         exact ⟨⟨j + 1,_,by omega,by go_num,rfl,by omega,by omega,bel,HPI.out.below bel,HNEXT.out hw0⟩,by simp [intOf];omega⟩
       · refine (window ap ps.length cp fr (Pl.g r 0) (Pl.g r 1) (Pl.g r 2) bh _ _ _ (by omega) (by omega)).mono ?_
         rintro e w5 ⟨rfl,hb5⟩
         obtain ⟨hc5,hfz5,hz5⟩:=bfacts hb5
         simp at hz5
         have y5:w.heap.size<w5.heap.size:=by omega
         have y6:wr.heap.size<w5.heap.size:=by omega
         rw [show Pl.winE ps.length fr [Pl.g r 0,Pl.g r 1,Pl.g r 2] bh=Pl.winE ps.length fr r bh from rfl]
         have hans:Pl.check ⟨ps,fr,ws,cs⟩=Pl.winE ps.length fr r bh:=by
          have t1:=HHALT.out hw0
          have t2:=HSTOP.out (by rw [t1];exact hw0)
          rw [check_mid h4 h3 h6 HA.out hne1 hne2 HB.out hfr1 hfr2,t2,t1,if_pos hw0]
         have hee:¬ Pl.winE ps.length fr r bh=0:=hw0
         generalize Pl.winE ps.length fr r bh=ee at *
         dsimp only
         repeat' (first|go_values|go_skip|go_guarded|(with_reducible refine wg ?_)|go_step|go_upon|go_quiet (fail))
         go_ret
         have hB:=HBI.out
         exact gives_int hans.symm bel
     · repeat' (first|go_values|go_skip|go_guarded|(with_reducible refine wg ?_)|go_step|go_upon|go_quiet (fail))
       have hB:=HBI.out
       exact ⟨⟨k + 1,by omega,by go_num,bel,HPI.out.below bel,HSTEP.out (by rw [hre,List.drop_of_length_le (by omega)];rfl)⟩,by simp [intOf];omega⟩
  · obtain ⟨hl0,p0,p1,p2,p3⟩:=HPC.out
    have hw0:Pl.winsE ps.length fr ws=0:=by rw [hwe,List.drop_of_length_le (by omega)];rfl
    have hans:=check_mid (cs:=cs) h4 h3 h6 HA.out hne1 hne2 HB.out hfr1 hfr2
    rw [if_neg (by rw [hw0];simp)] at hans
    have HANS:=hU hans
    have hB:=hb
    clear hans hw0 hwe
    cases hC:cs.any (fun r=> !Pl.chanB ps.length r)
    all_goals
     have HCC:=hU hC
     clear hC
     repeat' (first|(go_at_call 53;refine (contC w.heap.size ap ps.length cp fr aw ac ws.length cs.length cw cc (by omega) _ cs _ (HPC.out.below bel) (HC.out.below bel)).mono ?_;rintro e w5 ⟨rfl,hb5⟩;rw [HCC.out];dsimp only)|go_values|go_skip|go_guarded|(with_reducible refine wg ?_)|go_step|go_upon|go_quiet (fail))
     go_ret
     exact gives_int (by rw [HANS.out,HCC.out];rfl) bel
theorem Check (v:Value) (P:Pl.Plan) (w:World) (h:PlanAt w v P) (hfr:P.fr≤9223372036854775807):
 Calls Tryz.prog 28 #[v] w (Gives (.int .i64 (Pl.check P)) w):=by
 obtain ⟨vp,vw,vc,rfl,hp,hw,hc⟩:=h
 have HP:=hU hp
 have HW:=hU hw
 have HC:=hU hc
 obtain ⟨ap,cp,rfl,np,_⟩:=hp
 obtain ⟨aw,cw,rfl,nw,_⟩:=hw
 obtain ⟨ac,cc,rfl,nc,_⟩:=hc
 obtain ⟨ps,fr,ws,cs⟩:=P
 simp only [] at *
 by_cases h1:4<ps.length∨3<ws.length∨6<cs.length
 · have e:Pl.check ⟨ps,fr,ws,cs⟩=4:=by unfold Pl.check;rw [if_pos (by simp only [];omega)]
   rw [e]
   rcases h1 with h1|h1|h1
   all_goals
    go_enter Tryz.func28,Tryz.ntmps28
    repeat' (first|go_values|go_skip|go_guarded|(with_reducible refine wg ?_)|go_step|go_upon|go_quiet (fail))
    all_goals go_ret
    all_goals exact gives_of rfl bel
 · have h4:ps.length≤4:=by omega
   have h3:ws.length≤3:=by omega
   have h6:cs.length≤6:=by omega
   clear h1
   cases hA:ws.any (fun l=> decide (8<l.length))
   · have HA:=hU hA
     clear hA
     by_cases hz:ps.length=0∨ws.length=0
     · have e:Pl.check ⟨ps,fr,ws,cs⟩=1:=by unfold Pl.check;rw [if_neg (by simp only [HA.out];simp;omega),if_pos (by simp only [];omega)]
       rw [e]
       obtain hz|rfl:ps.length=0∨ws=[]:=hz.imp_right List.length_eq_zero_iff.mp
       all_goals
        go_enter Tryz.func28,Tryz.ntmps28
        repeat' (first|(go_at_call 48;refine (contW _ _ _ (HW.out.below bel)).mono ?_;rintro e w1 ⟨rfl,hb1⟩;obtain ⟨hc1,hf1,hz1⟩:=bfacts hb1;simp at hz1;have y0:w.heap.size<w1.heap.size:=(by omega);rw [HA.out];dsimp only)|go_values|go_skip|go_guarded|(with_reducible refine wg ?_)|go_step|go_upon|go_quiet (fail))
        all_goals go_ret
        all_goals exact gives_of rfl bel
     · have hz1:0<ps.length:=by omega
       have hz2:0<ws.length:=by omega
       have hne1:¬ ps=[]:=by intro h;rw [h] at hz1;exact absurd hz1 (Nat.lt_irrefl _)
       have hne2:¬ ws=[]:=by intro h;rw [h] at hz2;exact absurd hz2 (Nat.lt_irrefl _)
       clear hz
       cases hB:ps.any (fun r=> !Pl.partB r)
       · have HB:=hU hB
         clear hB
         by_cases hf:fr<1∨4096<fr
         · have e:Pl.check ⟨ps,fr,ws,cs⟩=1:=by unfold Pl.check;rw [if_neg (by simp only [HA.out];simp;omega),if_neg (by simp only [];omega),if_pos (by simp only [];omega)]
           rw [e]
           rcases hf with hf|hf
           all_goals
            go_enter Tryz.func28,Tryz.ntmps28
            repeat' (first|(go_at_call 48;refine (contW _ _ _ (HW.out.below bel)).mono ?_;rintro e w1 ⟨rfl,hb1⟩;obtain ⟨hc1,hf1,hz1⟩:=bfacts hb1;simp at hz1;have y0:w.heap.size<w1.heap.size:=(by omega);rw [HA.out];dsimp only)|(go_at_call 49;refine (contP _ ps _ (HP.out.below bel)).mono ?_;rintro e w2 ⟨rfl,hb2⟩;obtain ⟨hc2,hfz2,hz2'⟩:=bfacts hb2;have y1:w.heap.size<w2.heap.size:=(by omega);rw [HB.out];dsimp only)|go_values|go_skip|go_guarded|(with_reducible refine wg ?_)|go_step|go_upon|go_quiet (fail))
            all_goals go_ret
            all_goals exact gives_of rfl bel
         · have hf1:1≤fr:=by omega
           have hfr2:fr≤4096:=by omega
           clear hf
           exact CheckIn w ps fr ws cs ap aw ac cp cw cc HP HW HC h4 h3 h6 HA hne1 hne2 HB hf1 hfr2
       · have HB:=hU hB
         clear hB
         have e:Pl.check ⟨ps,fr,ws,cs⟩=1:=by unfold Pl.check;rw [if_neg (by simp only [HA.out];simp;omega),if_neg (by simp only [];omega),if_pos (by simp only [HB.out];simp)]
         rw [e]
         go_enter Tryz.func28,Tryz.ntmps28
         repeat' (first|(go_at_call 48;refine (contW _ _ _ (HW.out.below bel)).mono ?_;rintro e w1 ⟨rfl,hb1⟩;obtain ⟨hc1,hf1,hz1⟩:=bfacts hb1;simp at hz1;have y0:w.heap.size<w1.heap.size:=(by omega);rw [HA.out];dsimp only)|(go_at_call 49;refine (contP _ ps _ (HP.out.below bel)).mono ?_;rintro e w2 ⟨rfl,hb2⟩;obtain ⟨hc2,hfz2,hz2'⟩:=bfacts hb2;have y1:w.heap.size<w2.heap.size:=(by omega);rw [HB.out];dsimp only)|go_values|go_skip|go_guarded|(with_reducible refine wg ?_)|go_step|go_upon|go_quiet (fail))
         all_goals go_ret
         all_goals exact gives_of rfl bel
   · have HA:=hU hA
     clear hA
     have e:Pl.check ⟨ps,fr,ws,cs⟩=4:=by unfold Pl.check;rw [if_pos (by simp only [HA.out];simp)]
     rw [e]
     go_enter Tryz.func28,Tryz.ntmps28
     repeat' (first|(go_at_call 48;refine (contW _ _ _ (HW.out.below bel)).mono ?_;rintro e w1 ⟨rfl,hb1⟩;obtain ⟨hc1,hf1,hz1⟩:=bfacts hb1;simp at hz1;have y0:w.heap.size<w1.heap.size:=(by omega);rw [HA.out];dsimp only)|go_values|go_skip|go_guarded|(with_reducible refine wg ?_)|go_step|go_upon|go_quiet (fail))
     all_goals go_ret
     all_goals exact gives_of rfl bel
end Plan
end Go.Proofs.YthgehdghihbiaaaGreatDoor
namespace Go.Proofs.YthgehdghihbiaaaGreatDoor.Pl
theorem check_zero {P:Plan} (h:check P=0):1≤P.ps.length∧P.ps.length≤4∧1≤P.ws.length∧P.ws.length≤3∧P.cs.length≤6∧1≤P.fr∧P.fr≤4096∧
 P.ws.any (fun l=> decide (8<l.length))=false∧P.ps.any (fun r=> !partB r)=false∧winsE P.ps.length P.fr P.ws=0∧P.cs.any (fun r=> !chanB P.ps.length r)=false:=by
 unfold check at h
 by_cases h1:4<P.ps.length∨3<P.ws.length∨6<P.cs.length∨P.ws.any (fun l=> decide (8<l.length))=true
 · rw [if_pos h1] at h;omega
 rw [if_neg h1] at h
 by_cases h2:P.ps.length=0∨P.ws.length=0
 · rw [if_pos h2] at h;omega
 rw [if_neg h2] at h
 by_cases h3:P.ps.any (fun r=> !partB r)=true∨P.fr<1∨4096<P.fr
 · rw [if_pos h3] at h;omega
 rw [if_neg h3] at h
 by_cases h4:winsE P.ps.length P.fr P.ws ≠ 0
 · rw [if_pos h4] at h;exact absurd h h4
 rw [if_neg h4] at h
 by_cases h5:P.cs.any (fun r=> !chanB P.ps.length r)=true
 · rw [if_pos h5] at h;omega
 simp only [not_or] at h1 h2 h3
 refine ⟨by omega,by omega,by omega,by omega,by omega,by omega,by omega,by simpa using h1.2.2.2,by simpa using h3.1,by omega,by simpa using h5⟩
theorem chan_of {P:Plan} (h:check P=0) {k:Nat} (hk:k<P.cs.length):chanB P.ps.length (P.cs.getD k [])=true:=by
 have ha:=(check_zero h).2.2.2.2.2.2.2.2.2.2
 rw [List.any_eq_false] at ha
 have hm:P.cs.getD k [] ∈ P.cs:=by
  rw [List.getD_eq_getElem?_getD,List.getElem?_eq_getElem hk]
  exact List.getElem_mem hk
 have:=ha _ hm
 simpa using this
theorem chan_facts {np:Int} {r:List Int} (h:chanB np r=true):(g r 0=1∨g r 0=2)∧0≤g r 1∧g r 1<np∧0≤g r 2∧g r 2<np∧g r 1 ≠ g r 2∧1≤g r 3∧g r 3≤32∧1≤g r 4∧g r 4≤8∧(g r 0=1→g r 4=1):=by
 unfold chanB at h
 rw [decide_eq_true_eq] at h
 by_cases h1:g r 0=1
 · rw [if_pos h1] at h
   omega
 · rw [if_neg h1] at h
   omega
theorem wins_of {np fr:Int} {ws:List (List (List Int))} {k:Nat} (h:winsE np fr (ws.drop k)=0) (hk:k<ws.length):rowE np fr (ws.getD k []) 0=0∧winsE np fr (ws.drop (k + 1))=0:=by
 rw [List.drop_eq_getElem_cons hk,winsE] at h
 rw [List.getD_eq_getElem?_getD,List.getElem?_eq_getElem hk,Option.getD_some]
 by_cases h1:rowE np fr ws[k] 0=0
 · rw [if_pos h1] at h;exact ⟨h1,h⟩
 · rw [if_neg h1] at h;exact absurd h h1
theorem rows_of {np fr b:Int} {l:List (List Int)} {k:Nat} (h:rowE np fr (l.drop k) b=0) (hk:k<l.length):winE np fr (l.getD k []) b=0∧rowE np fr (l.drop (k + 1)) (g (l.getD k []) 1 + g (l.getD k []) 2)=0:=by
 rw [List.drop_eq_getElem_cons hk,rowE] at h
 rw [List.getD_eq_getElem?_getD,List.getElem?_eq_getElem hk,Option.getD_some]
 by_cases h1:winE np fr l[k] b=0
 · rw [if_pos h1] at h;exact ⟨h1,h⟩
 · rw [if_neg h1] at h;exact absurd h h1
theorem win_facts {np fr b:Int} {r:List Int} (h:winE np fr r b=0):0≤g r 0∧g r 0<np∧0≤g r 1∧2<g r 2∧g r 1 + g r 2≤fr∧b≤g r 1:=by
 unfold winE at h
 split at h
 · omega
 · split at h
   · omega
   · omega
end Go.Proofs.YthgehdghihbiaaaGreatDoor.Pl
