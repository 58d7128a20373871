/- transomref15's Outs and Ins: a partition's channels. Conditions: rows as they are read; few. transomref05.Check at a plan that may be: it says so. No condition. -/
import Derived.Test.YthgehdghihbiaaaGreatDoorGHy
import Derived.Test.YthgehdghihbiaaaGreatDoorKApp
set_option linter.unusedVariables false
set_option maxRecDepth 100000
set_option maxHeartbeats 8000000
set_option linter.unusedSimpArgs false
namespace Go.Proofs.YthgehdghihbiaaaGreatDoor
open Go.RowKit KR Kn
namespace Hy
theorem one_rdC {W:World} {n:Nat} {a:Chan} (h:W.heap[n]? =some (.cells (Chan.cells a) 101 (0,0))):Rd 5 Chan.cells W (.slice (some ⟨n,0,none⟩) 1 1) [a]:=
 ⟨_,1,rfl,Nat.le_refl _,(show 1≤9223372036854775807 by decide),.inr ⟨n,0,rfl,hlt h,fun i x hx j u hj=> by
   match i,hx with
   |0,hx=>
    obtain rfl:=Option.some.inj hx
    rw [hcell h]
    simpa using hj⟩⟩
theorem dOC {B:Nat} {W W':World} {v:Value} {l:List Chan} (hb:Below W.heap.size W W') (h:Hid (KR.Own 101 5 Chan.cells B W v l)):Hid (KR.Own 101 5 Chan.cells B W' v l):=hU (ownsRow_below h.out hb)
theorem outsOf_hit {i:Int} {l:List Chan} {k:Nat} {c:Chan} (h:l[k]? =some c) (hn:c.src=i):outsOf (l.take (k + 1)) i=outsOf (l.take k) i ++ [c]:=by
 unfold outsOf
 rw [List.take_add_one,h,Option.toList_some,List.filter_append]
 simp [hn]
theorem outsOf_miss {i:Int} {l:List Chan} {k:Nat} {c:Chan} (h:l[k]? =some c) (hn:¬ c.src=i):outsOf (l.take (k + 1)) i=outsOf (l.take k) i:=by
 unfold outsOf
 rw [List.take_add_one,h,Option.toList_some,List.filter_append]
 simp [hn]
def ROutsR (w:World) (cs:List Chan) (p:Int) (lv iv:Value) (W:World):Prop:=∃ i:Nat,i≤cs.length∧iv=.int .i64 i∧Hid (KR.Own 101 5 Chan.cells w.heap.size W lv (outsOf (cs.take i) p))∧Hid (Below w.heap.size w W)
theorem R15Outs (vp vw vc:Value) (fr p:Int) (cs:List Chan) (w:World) (hc:Rd 5 Chan.cells w vc cs) (hn:cs.length≤1000000):
 Calls Tryz.prog 40 #[.agg #[vp,.int .i64 fr,vw,vc],.int .i64 p] w (fun e w'=> ∃ v,e=.returned v∧Sl 101 5 Chan.cells w' v (outsOf cs p)∧Below w.heap.size w w'):=by
 obtain ⟨a,c,rfl,hcl,hcm⟩:=hc.shape
 obtain ⟨Wn,hW0,hb0,HP⟩:=nb1 (W:=w) (.cells #[vp,.int .i64 fr,vw,.slice a cs.length c] 27) rfl
 have HB:=hU hb0
 have HM:=hU (fun W (h:Below w.heap.size w W)=> hc.below h)
 clear hb0 hc
 go_enter Tryz.func40,Tryz.ntmps40
 repeat' (first|(rw [hW0];clear hW0)|go_values|go_skip|go_guarded|(with_reducible refine wg ?_)|go_step|go_upon)
 have hbz:=HB.out.size
 have HR0:Hid (Below Wn.heap.size Wn Wn):=hU (Below.refl _ _)
 obtain ⟨Wo,rfl⟩:∃ Wo,Wo=Wn:=⟨_,rfl⟩
 go_loopw [5,6] (fun lv iv2 wr=> ROutsR Wo cs p lv iv2 wr) (fun _ iv2 _=> cs.length - (intOf iv2).toNat)
 case atStart=> exact ⟨0,Nat.zero_le _,rfl,hU (KR.Own.nil _ _ _ _ _),HR0⟩
 case round=>
  clear HR0
  obtain ⟨i,him,rfl,HL0,HRB⟩:=hrel
  obtain ⟨Wn,rfl⟩:∃ Wn,Wn=wr:=⟨_,rfl⟩
  have hbw:=HB.out.trans (HRB.out.mono HB.out.size)
  replace HP:=nB HRB.out HP
  have p3:Wn.cell? ⟨w.heap.size,3,none⟩=some (.slice a cs.length c):=hcell HP.out 3
  by_cases hil:i<cs.length
  · have hj1:decide ((i:Int)<(cs.length:Int))=true:=by simp [hil]
    have hj1b:decide (i<cs.length)=true:=by simp [hil]
    have hj2:(i:Int)<(cs.length:Int):=by omega
    have hj0:(0:Int)≤(i:Int):=by omega
    obtain ⟨x,hx⟩:∃ x,cs[i]? =some x:=⟨_,List.getElem?_eq_getElem hil⟩
    obtain ⟨gb,off,hma,hgb,hcell0⟩:=(HM.out Wn hbw).elem.2.2.2 i x hx
    subst hma
    have HCE:=hU (hcell0 Wn (Below.refl _ _))
    have c0:Wn.cell? ⟨gb,off + i * 5 + 1,none⟩=some (.int .i64 x.src):=HCE.out 1 _ rfl
    have HX:=hU hx
    clear hcell0 hx hbw
    by_cases hna:x.src=p
    · have hd1:(x.src==p)=true:=by simp [hna]
      have htk:=outsOf_hit HX.out hna
      obtain ⟨g5,hab,hg5⟩:=nbz HRB
      obtain ⟨W1,hW1,hba,H5⟩:=nb1 (W:=Wn) (.cells (Chan.cells x) 101) hab
      have HO1:=dOC hba HL0
      have HR1:=nW hba HRB
      have hlf:(outsOf (cs.take i) p).length≤i:=Nat.le_trans (List.length_filter_le _ _) (by rw [List.length_take];omega)
      obtain ⟨v2,W2,hrun,hv2,hgr⟩:=apRow (P:=Tryz.prog) (t:=25) (ty:=25) (bytes:=40) szChan (by decide) Tryz.underlying25 (by kernel_rfl) onesChan HO1.out (one_rdC H5.out) HR1.out.size (by rw [List.length_singleton];unfold maxLen;omega) (by rw [List.length_singleton];omega)
      obtain ⟨htn,hbl⟩:=tn_of HO1.out HR1.out.size hgr
      have HRUN:=hU hrun
      have HO2:Hid (KR.Own 101 5 Chan.cells Wo.heap.size W2 v2 (outsOf (cs.take (i + 1)) p)):=hU (by rw [htk];exact hv2)
      have HR2:Hid (Below Wo.heap.size Wo W2):=hU (HR1.out.trans hbl)
      clear htk hba hrun hv2 hgr htn hbl HO1 HR1 HRB HL0 H5 hna hlf
      repeat' (first
       |(refine wpList_load (t:=101) (v:=.agg (Chan.cells x)) rfl rfl rfl (run_load_arr aggChan rfl HCE.out) ?_)
       |(refine wpList_buildSlice_one (v:=.agg (Chan.cells x)) rfl _ rfl rfl Tryz.underlying25 aggChan.size zeroChan rfl (by decide) (by decide) rfl ?_;(try simp only [Value.cells]);rw [hab,hW1];clear hab hW1)
       |(at_builtin;refine wpList_append_run _ rfl _ _ _ _ rfl _ _ rfl rfl _ _ HRUN.out ?_)
       |go_values|go_skip|go_guarded|(with_reducible refine wg ?_)|go_step|go_upon)
      exact ⟨⟨i + 1,by omega,by go_num,HO2,HR2⟩,by simp [intOf];omega⟩
    · have hd1:(x.src==p)=false:=by simpa using hna
      have htk:=outsOf_miss HX.out hna
      rw [← htk] at HL0
      clear htk hna
      repeat' (first|go_values|go_skip|go_guarded|(with_reducible refine wg ?_)|go_step|go_upon)
      exact ⟨⟨i + 1,by omega,by go_num,HL0,HRB⟩,by simp [intOf];omega⟩
  · have hj1:decide ((i:Int)<(cs.length:Int))=false:=by simp;omega
    have hj1b:decide (i<cs.length)=false:=by simp;omega
    have hie:cs.take i=cs:=List.take_of_length_le (by omega)
    rw [hie] at HL0
    repeat' (first|go_values|go_skip|go_guarded|(with_reducible refine wg ?_)|go_step|go_upon)
    go_ret
    exact ⟨_,rfl,HL0.out.sl szChan,HB.out.trans (HRB.out.mono HB.out.size)⟩
theorem insOf_hit {i:Int} {l:List Chan} {k:Nat} {c:Chan} (h:l[k]? =some c) (hn:c.dst=i):insOf (l.take (k + 1)) i=insOf (l.take k) i ++ [c]:=by
 unfold insOf
 rw [List.take_add_one,h,Option.toList_some,List.filter_append]
 simp [hn]
theorem insOf_miss {i:Int} {l:List Chan} {k:Nat} {c:Chan} (h:l[k]? =some c) (hn:¬ c.dst=i):insOf (l.take (k + 1)) i=insOf (l.take k) i:=by
 unfold insOf
 rw [List.take_add_one,h,Option.toList_some,List.filter_append]
 simp [hn]
def RInsR (w:World) (cs:List Chan) (p:Int) (lv iv:Value) (W:World):Prop:=∃ i:Nat,i≤cs.length∧iv=.int .i64 i∧Hid (KR.Own 101 5 Chan.cells w.heap.size W lv (insOf (cs.take i) p))∧Hid (Below w.heap.size w W)
theorem R15Ins (vp vw vc:Value) (fr p:Int) (cs:List Chan) (w:World) (hc:Rd 5 Chan.cells w vc cs) (hn:cs.length≤1000000):
 Calls Tryz.prog 41 #[.agg #[vp,.int .i64 fr,vw,vc],.int .i64 p] w (fun e w'=> ∃ v,e=.returned v∧Sl 101 5 Chan.cells w' v (insOf cs p)∧Below w.heap.size w w'):=by
 obtain ⟨a,c,rfl,hcl,hcm⟩:=hc.shape
 obtain ⟨Wn,hW0,hb0,HP⟩:=nb1 (W:=w) (.cells #[vp,.int .i64 fr,vw,.slice a cs.length c] 27) rfl
 have HB:=hU hb0
 have HM:=hU (fun W (h:Below w.heap.size w W)=> hc.below h)
 clear hb0 hc
 go_enter Tryz.func41,Tryz.ntmps41
 repeat' (first|(rw [hW0];clear hW0)|go_values|go_skip|go_guarded|(with_reducible refine wg ?_)|go_step|go_upon)
 have hbz:=HB.out.size
 have HR0:Hid (Below Wn.heap.size Wn Wn):=hU (Below.refl _ _)
 obtain ⟨Wo,rfl⟩:∃ Wo,Wo=Wn:=⟨_,rfl⟩
 go_loopw [5,6] (fun lv iv2 wr=> RInsR Wo cs p lv iv2 wr) (fun _ iv2 _=> cs.length - (intOf iv2).toNat)
 case atStart=> exact ⟨0,Nat.zero_le _,rfl,hU (KR.Own.nil _ _ _ _ _),HR0⟩
 case round=>
  clear HR0
  obtain ⟨i,him,rfl,HL0,HRB⟩:=hrel
  obtain ⟨Wn,rfl⟩:∃ Wn,Wn=wr:=⟨_,rfl⟩
  have hbw:=HB.out.trans (HRB.out.mono HB.out.size)
  replace HP:=nB HRB.out HP
  have p3:Wn.cell? ⟨w.heap.size,3,none⟩=some (.slice a cs.length c):=hcell HP.out 3
  by_cases hil:i<cs.length
  · have hj1:decide ((i:Int)<(cs.length:Int))=true:=by simp [hil]
    have hj1b:decide (i<cs.length)=true:=by simp [hil]
    have hj2:(i:Int)<(cs.length:Int):=by omega
    have hj0:(0:Int)≤(i:Int):=by omega
    obtain ⟨x,hx⟩:∃ x,cs[i]? =some x:=⟨_,List.getElem?_eq_getElem hil⟩
    obtain ⟨gb,off,hma,hgb,hcell0⟩:=(HM.out Wn hbw).elem.2.2.2 i x hx
    subst hma
    have HCE:=hU (hcell0 Wn (Below.refl _ _))
    have c0:Wn.cell? ⟨gb,off + i * 5 + 2,none⟩=some (.int .i64 x.dst):=HCE.out 2 _ rfl
    have HX:=hU hx
    clear hcell0 hx hbw
    by_cases hna:x.dst=p
    · have hd1:(x.dst==p)=true:=by simp [hna]
      have htk:=insOf_hit HX.out hna
      obtain ⟨g5,hab,hg5⟩:=nbz HRB
      obtain ⟨W1,hW1,hba,H5⟩:=nb1 (W:=Wn) (.cells (Chan.cells x) 101) hab
      have HO1:=dOC hba HL0
      have HR1:=nW hba HRB
      have hlf:(insOf (cs.take i) p).length≤i:=Nat.le_trans (List.length_filter_le _ _) (by rw [List.length_take];omega)
      obtain ⟨v2,W2,hrun,hv2,hgr⟩:=apRow (P:=Tryz.prog) (t:=25) (ty:=25) (bytes:=40) szChan (by decide) Tryz.underlying25 (by kernel_rfl) onesChan HO1.out (one_rdC H5.out) HR1.out.size (by rw [List.length_singleton];unfold maxLen;omega) (by rw [List.length_singleton];omega)
      obtain ⟨htn,hbl⟩:=tn_of HO1.out HR1.out.size hgr
      have HRUN:=hU hrun
      have HO2:Hid (KR.Own 101 5 Chan.cells Wo.heap.size W2 v2 (insOf (cs.take (i + 1)) p)):=hU (by rw [htk];exact hv2)
      have HR2:Hid (Below Wo.heap.size Wo W2):=hU (HR1.out.trans hbl)
      clear htk hba hrun hv2 hgr htn hbl HO1 HR1 HRB HL0 H5 hna hlf
      repeat' (first
       |(refine wpList_load (t:=101) (v:=.agg (Chan.cells x)) rfl rfl rfl (run_load_arr aggChan rfl HCE.out) ?_)
       |(refine wpList_buildSlice_one (v:=.agg (Chan.cells x)) rfl _ rfl rfl Tryz.underlying25 aggChan.size zeroChan rfl (by decide) (by decide) rfl ?_;(try simp only [Value.cells]);rw [hab,hW1];clear hab hW1)
       |(at_builtin;refine wpList_append_run _ rfl _ _ _ _ rfl _ _ rfl rfl _ _ HRUN.out ?_)
       |go_values|go_skip|go_guarded|(with_reducible refine wg ?_)|go_step|go_upon)
      exact ⟨⟨i + 1,by omega,by go_num,HO2,HR2⟩,by simp [intOf];omega⟩
    · have hd1:(x.dst==p)=false:=by simpa using hna
      have htk:=insOf_miss HX.out hna
      rw [← htk] at HL0
      clear htk hna
      repeat' (first|go_values|go_skip|go_guarded|(with_reducible refine wg ?_)|go_step|go_upon)
      exact ⟨⟨i + 1,by omega,by go_num,HL0,HRB⟩,by simp [intOf];omega⟩
  · have hj1:decide ((i:Int)<(cs.length:Int))=false:=by simp;omega
    have hj1b:decide (i<cs.length)=false:=by simp;omega
    have hie:cs.take i=cs:=List.take_of_length_le (by omega)
    rw [hie] at HL0
    repeat' (first|go_values|go_skip|go_guarded|(with_reducible refine wg ?_)|go_step|go_upon)
    go_ret
    exact ⟨_,rfl,HL0.out.sl szChan,HB.out.trans (HRB.out.mono HB.out.size)⟩
end Hy
end Go.Proofs.YthgehdghihbiaaaGreatDoor
namespace Go.Proofs.YthgehdghihbiaaaGreatDoor
open Go.RowKit
namespace RfO
theorem wins_ofO {np fr:Int} {ws:List (List (List Int))} {k:Nat} (h:Pl.winsE np fr (ws.drop k)=0) (hk:k<ws.length):Pl.rowE np fr (ws.getD k []) 0=0∧Pl.winsE np fr (ws.drop (k + 1))=0:=by
 rw [List.drop_eq_getElem_cons hk,Pl.winsE] at h
 rw [List.getD_eq_getElem?_getD,List.getElem?_eq_getElem hk,Option.getD_some]
 by_cases h1:Pl.rowE np fr ws[k] 0=0
 · rw [if_pos h1] at h;exact ⟨h1,h⟩
 · rw [if_neg h1] at h;exact absurd h h1
theorem rows_ofO {np fr b:Int} {l:List (List Int)} {k:Nat} (h:Pl.rowE np fr (l.drop k) b=0) (hk:k<l.length):Pl.winE np fr (l.getD k []) b=0∧Pl.rowE np fr (l.drop (k + 1)) (Pl.g (l.getD k []) 1 + Pl.g (l.getD k []) 2)=0:=by
 rw [List.drop_eq_getElem_cons hk,Pl.rowE] at h
 rw [List.getD_eq_getElem?_getD,List.getElem?_eq_getElem hk,Option.getD_some]
 by_cases h1:Pl.winE np fr l[k] b=0
 · rw [if_pos h1] at h;exact ⟨h1,h⟩
 · rw [if_neg h1] at h;exact absurd h h1
theorem row_b {np fr:Int} {l:List (List Int)} (h:Pl.rowE np fr l 0=0):∀ j,j≤l.length→∃ b,Pl.rowE np fr (l.drop j) b=0∧(0<j→b=Pl.g (l.getD (j - 1) []) 1 + Pl.g (l.getD (j - 1) []) 2)
 |0,_=> ⟨0,h,fun h=> absurd h (by decide)⟩
 |j + 1,hj=> by
  obtain ⟨b,hb,_⟩:=row_b h j (by omega)
  obtain ⟨_,h2⟩:=rows_ofO hb (by omega)
  exact ⟨_,h2,fun _=> rfl⟩
theorem row_win {np fr:Int} {l:List (List Int)} (h:Pl.rowE np fr l 0=0) {j:Nat} (hj:j<l.length):0≤Pl.g (l.getD j []) 0∧Pl.g (l.getD j []) 0<np∧0≤Pl.g (l.getD j []) 1∧2<Pl.g (l.getD j []) 2∧Pl.g (l.getD j []) 1 + Pl.g (l.getD j []) 2≤fr∧(0<j→Pl.g (l.getD (j - 1) []) 1 + Pl.g (l.getD (j - 1) []) 2≤Pl.g (l.getD j []) 1):=by
 obtain ⟨b,hb,hp⟩:=row_b h j (by omega)
 obtain ⟨h1,_⟩:=rows_ofO hb hj
 obtain ⟨a0,a1,a2,a3,a4,a5⟩:=Pl.win_facts h1
 exact ⟨a0,a1,a2,a3,a4,fun h0=> by rw [← hp h0];exact a5⟩
theorem wins_b {np fr:Int} {ws:List (List (List Int))} (h:Pl.winsE np fr ws=0):∀ k,k≤ws.length→Pl.winsE np fr (ws.drop k)=0
 |0,_=> h
 |k + 1,hk=> (wins_ofO (wins_b h k (by omega)) (by omega)).2
theorem wins_row {np fr:Int} {ws:List (List (List Int))} (h:Pl.winsE np fr ws=0) {k:Nat} (hk:k<ws.length):Pl.rowE np fr (ws.getD k []) 0=0:=(wins_ofO (wins_b h k (by omega)) hk).1
theorem any_no {l:List (List Int)} {p:List Int→Bool} (h:l.any (fun r=> !p r)=false) {k:Nat} (hk:k<l.length):p (l.getD k [])=true:=by
 rw [List.any_eq_false] at h
 have:=h _ (List.getElem_mem hk)
 rw [List.getD_eq_getElem?_getD,List.getElem?_eq_getElem hk]
 simpa using this
theorem part_all {r:List Int} (h:Pl.partB r=true):64≤Pl.g r 0∧Pl.g r 0≤1024∧1≤Pl.g r 1∧Pl.g r 1≤3∧1≤Pl.g r 2∧Pl.g r 2≤3∧1≤Pl.g r 3∧Pl.g r 3≤3:=by
 simp only [Pl.partB,Pl.odd3,Pl.odd,Bool.and_eq_true,decide_eq_true_eq,Bool.not_eq_true',Bool.or_eq_false_iff,decide_eq_false_iff_not] at h
 omega
theorem part_four {r:List Int} (h:Pl.partB r=true):Pl.g r 0 % 4=0:=by
 simp only [Pl.partB,Bool.and_eq_true,beq_iff_eq] at h
 exact h.2.2.1
structure On (w:World) (fr:Int) (ap aw ac:Value) (n:Nat) (v:Value) (W:World):Prop where
 bel:Below w.heap.size w W
 a:Plan.PlanCell W w.heap.size ap fr aw ac
 at_:∃ k:Nat,k≤n∧v=.int .i64 k
theorem On.below {w W W':World} {fr:Int} {ap aw ac:Value} {n m:Nat} {v v':Value} (h:On w fr ap aw ac n v W) (hb:Below W.heap.size W W') (k:Nat) (hv:v'=.int .i64 k) (hk:k≤m):On w fr ap aw ac m v' W':=
 ⟨h.bel.trans (hb.mono h.bel.size),h.a.below hb,k,hk,hv⟩
theorem CheckOk (v:Value) (P:Pl.Plan) (w:World) (h:PlanAt w v P) (hc:Pl.check P=0):
 Calls Tryz.prog 37 #[v] w (Gives (.int .i64 0) w):=by
 obtain ⟨up,uw,uc,rfl,hup,huw,huc⟩:=h
 obtain ⟨k1,k2,k3,k4,k5,f1,f2,hA,hB,hW,hC⟩:=Pl.check_zero hc
 clear hc
 obtain ⟨ps,fr,ws,cs⟩:=P
 dsimp only at *
 have HP:=hU hup
 have HW:=hU huw
 have HC:=hU huc
 have HPB:=hU (fun (k:Nat) (hk:k<ps.length)=> any_no hB hk)
 have HWR:=hU (fun (k:Nat) (hk:k<ws.length)=> wins_row hW hk)
 have HCB:=hU (fun (k:Nat) (hk:k<cs.length)=> any_no hC hk)
 have HW8:=hU (fun (k:Nat) (hk:k<ws.length)=> show ¬ (8:Int)<(ws.getD k []).length by
  rw [List.any_eq_false] at hA
  have:=hA _ (List.getElem_mem hk)
  rw [List.getD_eq_getElem?_getD,List.getElem?_eq_getElem hk]
  simp at this ⊢
  omega)
 obtain ⟨a1,c1,rfl,n1,_⟩:=hup
 obtain ⟨a2,c2,rfl,n2,_⟩:=huw
 obtain ⟨a3,c3,rfl,n3,_⟩:=huc
 have b1:¬ (4:Int)<ps.length:=by omega
 have b2:¬ (3:Int)<ws.length:=by omega
 have b3:¬ (6:Int)<cs.length:=by omega
 have e1:((ps.length:Int)==0)=false:=by simp;intro h;rw [h] at k1;simp at k1
 have e2:((ws.length:Int)==0)=false:=by simp;intro h;rw [h] at k3;simp at k3
 clear hA hB hW hC k2 k4 k5
 go_enter Tryz.func37,Tryz.ntmps37
 repeat' (first|go_values|go_skip|go_guarded|(with_reducible refine wg ?_)|go_step|go_upon|go_quiet (fail))
 go_loopw [3,4] (fun vb v wr=> vb=.bool false∧On w fr (.slice a1 ps.length c1) (.slice a2 ws.length c2) (.slice a3 cs.length c3) ws.length v wr) (fun _ v _=> ws.length - (intOf v).toNat)
 case atStart=> exact ⟨by go_simp,bel,⟨by go_simp,by go_simp,by go_simp,by go_simp,by go_simp⟩,0,Nat.zero_le _,rfl⟩
 case round=>
  obtain ⟨rfl,hon⟩:=hrel
  obtain ⟨k,hk,rfl⟩:=id hon.at_
  have HON:=hU hon
  have HBl:=hU hon.bel
  obtain ⟨hbs,⟨ha0,ha1,ha2,ha3,ha4⟩,_⟩:=hon
  by_cases hlt:k<ws.length
  · obtain ⟨a',c',hav,hn',hnil|⟨b,off,rfl,hbl,hcell⟩⟩:=HW.out
    · rw [hnil] at hlt;exact absurd hlt (Nat.not_lt_zero _)
    cases hav
    obtain ⟨u,hu,hrow⟩:=hcell k hlt
    obtain ⟨ra,rc,rfl,nr,_⟩:=hrow
    have cu:=(HBl.out.cell (p:=⟨b,off + k,none⟩) hbl).trans hu
    have r8:=HW8.out _ hlt
    clear hcell hu
    generalize ws.getD k []=row at *
    repeat' (first|go_values|go_skip|go_guarded|(with_reducible refine wg ?_)|go_step|go_upon|go_quiet (fail))
    exact ⟨⟨rfl,HON.out.below bel (k + 1) (by go_num) (by omega)⟩,by simp [intOf];omega⟩
  · repeat' (first|go_values|go_skip|go_guarded|(with_reducible refine wg ?_)|go_step|go_upon|go_quiet (fail))
    clear hk hlt
    go_loopw [5] (fun v wr=> On w fr (.slice a1 ps.length c1) (.slice a2 ws.length c2) (.slice a3 cs.length c3) ps.length v wr) (fun v _=> ps.length - (intOf v).toNat)
    case atStart=> exact HON.out.below bel 0 rfl (Nat.zero_le _)
    case round=>
     clear HON HBl hbs ha0 ha1 ha2 ha3 ha4
     have hon:=hrel
     obtain ⟨k,hk,rfl⟩:=id hon.at_
     have HON:=hU hon
     have HBl:=hU hon.bel
     obtain ⟨hbs,⟨ha0,ha1,ha2,ha3,ha4⟩,_⟩:=hon
     by_cases hlt:k<ps.length
     · obtain ⟨a',c',hav,_,hnil|⟨b,off,rfl,hbl,hcell⟩⟩:=HP.out
       · rw [hnil] at hlt;exact absurd hlt (Nat.not_lt_zero _)
       cases hav
       have at_:=fun i hi=> (HBl.out.cell (p:=⟨b,off + k * 4 + i,none⟩) hbl).trans (hcell k i hlt hi)
       have d0:=at_ 0 (by omega)
       have d1:=at_ 1 (by omega)
       have d2:=at_ 2 (by omega)
       have d3:=at_ 3 (by omega)
       rw [Nat.add_zero] at d0
       have hpb:=HPB.out _ hlt
       clear at_ hcell
       generalize ps.getD k []=r at *
       obtain ⟨q0,q1,q2,q3,q4,q5,q6,q7⟩:=part_all hpb
       have q8:Pl.g r 0 % 4=0:=part_four hpb
       clear hpb
       repeat' (first|go_values|go_skip|go_guarded|(with_reducible refine wg ?_)|go_step|go_upon|go_quiet (fail))
       refine wp_loop_rounds 4 ?_
       rw [rounds_succ]
       repeat' (first|go_values|go_skip|go_guarded|(with_reducible refine wg ?_)|go_step|go_upon|go_quiet (fail))
       rw [rounds_succ]
       repeat' (first|go_values|go_skip|go_guarded|(with_reducible refine wg ?_)|go_step|go_upon|go_quiet (fail))
       rw [rounds_succ]
       repeat' (first|go_values|go_skip|go_guarded|(with_reducible refine wg ?_)|go_step|go_upon|go_quiet (fail))
       rw [rounds_succ]
       repeat' (first|go_values|go_skip|go_guarded|(with_reducible refine wg ?_)|go_step|go_upon|go_quiet (fail))
       exact ⟨HON.out.below bel (k + 1) (by go_num) (by omega),by simp [intOf];omega⟩
     · have hB:=hbs
       repeat' (first|go_values|go_skip|go_guarded|(with_reducible refine wg ?_)|go_step|go_upon|go_quiet (fail))
       clear hk hlt hbs ha0 ha1 ha2 ha3 ha4
       go_loopw [8] (fun v wr=> On w fr (.slice a1 ps.length c1) (.slice a2 ws.length c2) (.slice a3 cs.length c3) ws.length v wr) (fun v _=> ws.length - (intOf v).toNat)
       case atStart=> exact HON.out.below bel 0 rfl (Nat.zero_le _)
       case round=>
        clear HON HBl hB
        have hon:=hrel
        obtain ⟨k,hk,rfl⟩:=id hon.at_
        have HON:=hU hon
        have HBl:=hU hon.bel
        obtain ⟨hbs,⟨ha0,ha1,ha2,ha3,ha4⟩,_⟩:=hon
        by_cases hlt:k<ws.length
        · obtain ⟨a',c',hav,hn',hnil|⟨b,off,rfl,hbl,hcell⟩⟩:=HW.out
          · rw [hnil] at hlt;exact absurd hlt (Nat.not_lt_zero _)
          obtain ⟨u,hu,hrow⟩:=hcell k hlt
          cases hav
          have HROW:=hU hrow
          obtain ⟨a3',c3',rfl,hn3,_⟩:=hrow
          have HU:=hU hu
          have c0:=(HBl.out.cell (p:=⟨b,off + k,none⟩) hbl).trans hu
          have hre:=HWR.out _ hlt
          clear hcell hu
          generalize ws.getD k []=row at *
          have HRE:=hU (fun (j:Nat) (hj:j<row.length)=> row_win hre hj)
          clear hre
          repeat' (first|go_values|go_skip|go_guarded|(with_reducible refine wg ?_)|go_step|go_upon|go_quiet (fail))
          obtain ⟨wo,rfl⟩:∃ wo:World,wo=wr:=⟨_,rfl⟩
          clear hbs ha0 ha1 ha2 ha3 ha4 c0
          go_loopw [9] (fun v wi=> On w fr (.slice a1 ps.length c1) (.slice (some ⟨b,off,none⟩) ws.length c2) (.slice a3 cs.length c3) row.length v wi) (fun v _=> row.length - (intOf v).toNat)
          case atStart=> exact HON.out.below bel 0 rfl (Nat.zero_le _)
          case round=>
           have hon:=hrel
           obtain ⟨j,hj,rfl⟩:=id hon.at_
           clear HON HBl
           have HPI:=hU hon
           have HBI:=hU hon.bel
           obtain ⟨hbs,⟨ha0,ha1,ha2,ha3,ha4⟩,_⟩:=hon
           have c0:=(HBI.out.cell (p:=⟨b,off + k,none⟩) hbl).trans HU.out
           by_cases hjl:j<row.length
           · obtain ⟨a4,c4,hav,hn4,hnil|⟨b3,off3,rfl,hbl3,hcell3⟩⟩:=HROW.out
             · rw [hnil] at hjl;exact absurd hjl (Nat.not_lt_zero _)
             cases hav
             have at_:=fun i hi=> (HBI.out.cell (p:=⟨b3,off3 + j * 3 + i,none⟩) hbl3).trans (hcell3 j i hjl hi)
             have d0:=at_ 0 (by omega)
             have d1:=at_ 1 (by omega)
             have d2:=at_ 2 (by omega)
             rw [Nat.add_zero] at d0
             obtain ⟨x0,x1,x2,x3,x4,x5⟩:=HRE.out _ hjl
             obtain ⟨r,hrd⟩:∃ r,row.getD j []=r:=⟨_,rfl⟩
             rw [hrd] at d0 d1 d2 x0 x1 x2 x3 x4 x5
             clear at_ hrd
             have y1: -9223372036854775808≤fr - Pl.g r 1:=by omega
             have y2:fr - Pl.g r 1≤9223372036854775807:=by omega
             have y3:¬ fr - Pl.g r 1<Pl.g r 2:=by omega
             rcases j with _|j
             · simp only [Nat.zero_mul,Nat.add_zero] at d0 d1 d2
               clear x5
               repeat' (first|go_values|go_skip|go_guarded|(with_reducible refine wg ?_)|go_step|go_upon|go_quiet (fail))
               exact ⟨HPI.out.below bel 1 (by go_num) (by omega),by simp [intOf];omega⟩
             · have ep:=fun i hi=> (HBI.out.cell (p:=⟨b3,off3 + j * 3 + i,none⟩) hbl3).trans (hcell3 j i (by omega) hi)
               have e1:=ep 1 (by omega)
               have e2:=ep 2 (by omega)
               have hjp:=x5 (by omega)
               obtain ⟨z0,z1,z2,z3,z4,_⟩:=HRE.out _ (show j<row.length by omega)
               rw [Nat.add_sub_cancel] at hjp
               clear ep x5
               obtain ⟨J,hJ⟩:∃ J:Nat,j + 1=J:=⟨_,rfl⟩
               rw [hJ] at d0 d1 d2 hjl
               rw [hJ]
               have hJ0:(0:Int)<J:=by omega
               have hJ5:0<J:=by omega
               have hbw:b<wr.heap.size:=by omega
               have hbw3:b3<wr.heap.size:=by omega
               have hJ1:(J:Int) - 1=j:=by omega
               have hJ2:(j:Int)<row.length:=by omega
               have hJ3:(j:Int)≤9223372036854775807:=by omega
               have hJ4:(0:Int)≤j:=by omega
               obtain ⟨rp,hrp⟩:∃ rp,row.getD j []=rp:=⟨_,rfl⟩
               rw [hrp] at e1 e2 hjp z0 z1 z2 z3 z4
               clear hrp
               have hs1: -9223372036854775808≤Pl.g rp 1 + Pl.g rp 2:=by omega
               have hs2:Pl.g rp 1 + Pl.g rp 2≤9223372036854775807:=by omega
               have x7:¬ Pl.g r 1<Pl.g rp 1 + Pl.g rp 2:=by omega
               repeat' (first|go_values|go_skip|go_guarded|(with_reducible refine wg ?_)|go_step|go_upon|go_quiet (fail))
               exact ⟨HPI.out.below bel (J + 1) (by go_num) (by omega),by simp [intOf];omega⟩
           · repeat' (first|go_values|go_skip|go_guarded|(with_reducible refine wg ?_)|go_step|go_upon|go_quiet (fail))
             exact ⟨HPI.out.below bel (k + 1) (by go_num) (by omega),by simp [intOf];omega⟩
        · repeat' (first|go_values|go_skip|go_guarded|(with_reducible refine wg ?_)|go_step|go_upon|go_quiet (fail))
          clear hk hlt hbs ha0 ha1 ha2 ha3 ha4
          go_loopw [11] (fun v wr=> On w fr (.slice a1 ps.length c1) (.slice a2 ws.length c2) (.slice a3 cs.length c3) cs.length v wr) (fun v _=> cs.length - (intOf v).toNat)
          case atStart=> exact HON.out.below bel 0 rfl (Nat.zero_le _)
          case round=>
           clear HON HBl
           have hon:=hrel
           obtain ⟨k,hk,rfl⟩:=id hon.at_
           have HON:=hU hon
           have hB:=hon.bel
           obtain ⟨hbs,⟨ha0,ha1,ha2,ha3,ha4⟩,_⟩:=hon
           by_cases hlt:k<cs.length
           · obtain ⟨a',c',hav,_,hnil|⟨b,off,rfl,hbl,hcell⟩⟩:=HC.out
             · rw [hnil] at hlt;exact absurd hlt (Nat.not_lt_zero _)
             cases hav
             have at_:=fun i hi=> (hB.cell (p:=⟨b,off + k * 5 + i,none⟩) hbl).trans (hcell k i hlt hi)
             have d0:=at_ 0 (by omega)
             have d1:=at_ 1 (by omega)
             have d2:=at_ 2 (by omega)
             have d3:=at_ 3 (by omega)
             have d4:=at_ 4 (by omega)
             rw [Nat.add_zero] at d0
             have hcb:=HCB.out _ hlt
             clear at_ hcell
             generalize cs.getD k []=r at *
             obtain ⟨q0,q1,q2,q3,q4,q5,q6,q7,q8,q9,q10⟩:=Pl.chan_facts hcb
             have q12:(Pl.g r 1==Pl.g r 2)=false:=by simpa using q5
             clear hcb
             rcases q0 with q0|q0
             case' inl=> have q11:=q10 q0
             all_goals
              clear q10
              repeat' (first|go_values|go_skip|go_guarded|(with_reducible refine wg ?_)|go_step|go_upon|go_quiet (fail))
              exact ⟨HON.out.below bel (k + 1) (by go_num) (by omega),by simp [intOf];omega⟩
           · repeat' (first|go_values|go_skip|go_guarded|(with_reducible refine wg ?_)|go_step|go_upon|go_quiet (fail))
             go_ret
             exact gives_int rfl bel
end RfO
end Go.Proofs.YthgehdghihbiaaaGreatDoor
