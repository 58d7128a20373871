/- transomref16.texts, Stamps; transomref05.Same at two plans of the same rows. Conditions: as many as Go can hold. transomref16.Same answers true at two machines that read as one, of the same plan and images. No condition. -/
import Derived.Test.YthgehdghihbiaaaGreatDoorHySmS
import Derived.Test.YthgehdghihbiaaaGreatDoorGHy
set_option linter.unusedVariables false
set_option maxRecDepth 100000
set_option maxHeartbeats 8000000
set_option linter.unusedSimpArgs false
namespace Go.Proofs.YthgehdghihbiaaaGreatDoor
open Go.RowKit KR Kn RegT3
theorem info_int:(Tryz.prog.info? 3).map (fun i=> i.size)=some 1:=by kernel_rfl
theorem arr_act (d:Nat) (W:World) (xs ys:Array Value):(Op.equalIn (d + 1) 94 (.agg xs) (.agg ys)).run Tryz.prog W=(eqFrom d 3 1 xs ys 0 3).run Tryz.prog W:=by
 obtain ⟨i,hi,hs⟩:=Option.map_eq_some_iff.1 info_int
 have e:arrOf Tryz.prog 94=(3,3):=by unfold arrOf;rw [Tryz.underlying94]
 have h:=run_equalIn_array (P:=Tryz.prog) W d 94 xs ys i (by rw [e];exact Tryz.underlying94) (by rw [e];exact hi)
 rw [e,hs] at h
 exact h
namespace Hy
theorem qWin (W:World) (a0 a1 a2:Int):(binOp .neq 99 (.agg #[.int .i64 a0,.int .i64 a1,.int .i64 a2]) (.agg #[.int .i64 a0,.int .i64 a1,.int .i64 a2])).run Tryz.prog W=.ok (.bool false) W:=by
 go_simp
theorem qChan (W:World) (a0 a1 a2 a3 a4:Int):(binOp .neq 101 (.agg #[.int .i64 a0,.int .i64 a1,.int .i64 a2,.int .i64 a3,.int .i64 a4]) (.agg #[.int .i64 a0,.int .i64 a1,.int .i64 a2,.int .i64 a3,.int .i64 a4])).run Tryz.prog W=.ok (.bool false) W:=by
 go_simp
theorem qPart (W:World) (a0 a1 a2 a3:Int):(binOp .neq 96 (.agg #[.int .i64 a0,.int .i64 a1,.int .i64 a2,.int .i64 a3]) (.agg #[.int .i64 a0,.int .i64 a1,.int .i64 a2,.int .i64 a3])).run Tryz.prog W=.ok (.bool false) W:=by
 have hA:=arr_act
 go_simp
theorem qStamp (x:Stamp) (W:World):(binOp .neq 126 (.agg (Stamp.cells x)) (.agg (Stamp.cells x))).run Tryz.prog W=.ok (.bool false) W:=by
 unfold Stamp.cells
 go_simp
theorem planE {W:World} {vp vw vc:Value} {P:Pl.Plan} (h:PlanAt W (.agg (pcells vp vw vc P.fr)) P):RowsAt W 4 vp P.ps∧WinsAt W vw P.ws∧RowsAt W 5 vc P.cs:=by
 obtain ⟨vp',vw',vc',hv,h1,h2,h3⟩:=h
 unfold pcells at hv
 injection hv with hv
 simp only [Array.mk.injEq,List.cons.injEq,and_true,true_and] at hv
 obtain ⟨rfl,rfl,rfl⟩:=hv
 exact ⟨h1,h2,h3⟩
theorem aggStampE:Agg Tryz.prog 126 3:=agg_of Tryz.underlying126 rfl (by kernel_rfl)
theorem ETexts2 (u v:Value) (l:List ByteArray) (w:World) (h1:Rd 1 strCells w u l) (h2:Rd 1 strCells w v l):Calls Tryz.prog 16 #[u,v] w (Gives (.bool true) w):=by
 obtain ⟨a1,c1,rfl,hm1,hm2⟩:=h1.shape
 obtain ⟨a2,c2,rfl,_,_⟩:=h2.shape
 have H1:=hU h1.elem.2.2.2
 have H2:=hU h2.elem.2.2.2
 clear h1 h2
 go_enter Tryz.func16,Tryz.ntmps16
 repeat' (first|go_values|go_skip|go_guarded|(with_reducible refine wg ?_)|go_step|go_upon)
 go_loopw [5] (fun iv wr=> SameR w l.length iv wr) (fun iv _=> l.length - (intOf iv).toNat)
 case atStart=> exact ⟨0,Nat.zero_le _,rfl,Below.refl _ _⟩
 case round=>
  obtain ⟨k,hk,rfl,hb⟩:=hrel
  by_cases hkl:k<l.length
  · obtain ⟨x,hx⟩:∃ x,l[k]? =some x:=⟨_,List.getElem?_eq_getElem hkl⟩
    obtain ⟨g1,o1,rfl,_,hc1⟩:=H1.out k x hx
    obtain ⟨g2,o2,rfl,_,hc2⟩:=H2.out k x hx
    have HC1:=hU hc1
    have HC2:=hU hc2
    clear hc1 hc2 H1 H2
    have HB:=hU hb
    have hj1:(k:Int)<(l.length:Int):=by omega
    have hj0:(0:Int)≤(k:Int):=by omega
    clear hb hx
    repeat' (first|go_values|go_skip|go_guarded|(with_reducible refine wg ?_)|go_step|go_upon)
    refine wp_region_noPanic ?_
    refine go0 (S:=fun W=> W.cell? ⟨g1,o1 + k,none⟩=some (.string x)∧W.cell? ⟨g2,o2 + k,none⟩=some (.string x)) [] (⟨by simpa using HC1.out _ HB.out.drew 0 (.string x) rfl,by simpa using HC2.out _ HB.out.drew 0 (.string x) rfl⟩) fun hS=> ?_
    refine tp 0 ?_;(try simp only [acts])
    refine tp 1 ?_;(try simp only [acts])
    refine tp 2 ?_;(try simp only [acts])
    refine tl 3 ?_;(try simp only [acts])
    refine tp 4 ?_;(try simp only [acts])
    refine tp 5 ?_;(try simp only [acts])
    refine tp 6 ?_;(try simp only [acts])
    refine tl 7 ?_;(try simp only [acts])
    refine tp 8 ?_;(try simp only [acts])
    refine doneL (by kernel_rfl) (NoPanic.normal ?_) _
    clear hS
    repeat' (first|go_values|go_skip|go_guarded|(with_reducible refine wg ?_)|go_step|go_upon)
    exact ⟨⟨k + 1,by omega,by go_num,HB.out.drew⟩,by simp [intOf];omega⟩
  · have HB:=hU hb
    clear hb
    repeat' (first|go_values|go_skip|go_guarded|(with_reducible refine wg ?_)|go_step|go_upon)
    go_ret
    exact gives_of rfl HB.out
theorem EStamps (u v:Value) (l:List Stamp) (w:World) (h1:Sl 126 3 Stamp.cells w u l) (h2:Sl 126 3 Stamp.cells w v l):Calls Tryz.prog 18 #[u,v] w (Gives (.bool true) w):=by
 obtain ⟨a1,c1,rfl,hm1,hm2⟩:=h1.shape
 obtain ⟨a2,c2,rfl,_,_⟩:=h2.shape
 have H1:=hU h1.elem.2.2.2
 have H2:=hU h2.elem.2.2.2
 clear h1 h2
 go_enter Tryz.func18,Tryz.ntmps18
 repeat' (first|go_values|go_skip|go_guarded|(with_reducible refine wg ?_)|go_step|go_upon)
 go_loopw [5] (fun iv wr=> SameR w l.length iv wr) (fun iv _=> l.length - (intOf iv).toNat)
 case atStart=> exact ⟨0,Nat.zero_le _,rfl,Below.refl _ _⟩
 case round=>
  obtain ⟨k,hk,rfl,hb⟩:=hrel
  by_cases hkl:k<l.length
  · obtain ⟨x,hx⟩:∃ x,l[k]? =some x:=⟨_,List.getElem?_eq_getElem hkl⟩
    obtain ⟨g1,o1,rfl,_,hc1⟩:=H1.out k x hx
    obtain ⟨g2,o2,rfl,_,hc2⟩:=H2.out k x hx
    have HC1:=hU hc1
    have HC2:=hU hc2
    clear hc1 hc2 H1 H2
    have HB:=hU hb
    have hj1:(k:Int)<(l.length:Int):=by omega
    have hj0:(0:Int)≤(k:Int):=by omega
    clear hb hx
    have hq:=qStamp x
    repeat' (first|go_values|go_skip|go_guarded|(with_reducible refine wg ?_)|go_step|go_upon)
    refine wp_region_noPanic ?_
    refine go0 (S:=fun W=> (∀ j u,(Stamp.cells x)[j]? =some u→W.cell? ⟨g1,o1 + k * 3 + j,none⟩=some u)∧(∀ j u,(Stamp.cells x)[j]? =some u→W.cell? ⟨g2,o2 + k * 3 + j,none⟩=some u)) [] (⟨HC1.out _ HB.out.drew,HC2.out _ HB.out.drew⟩) fun hS=> ?_
    refine tp 0 ?_;(try simp only [acts])
    refine tp 1 ?_;(try simp only [acts])
    refine tp 2 ?_;(try simp only [acts])
    refine tv 3 (.agg (Stamp.cells x)) (fun W hSW=> run_val_load rfl rfl (run_load_arr aggStampE rfl hSW.1)) ?_;(try simp only [acts])
    refine tp 4 ?_;(try simp only [acts])
    refine tp 5 ?_;(try simp only [acts])
    refine tp 6 ?_;(try simp only [acts])
    refine tv 7 (.agg (Stamp.cells x)) (fun W hSW=> run_val_load rfl rfl (run_load_arr aggStampE rfl hSW.2)) ?_;(try simp only [acts])
    refine tp 8 ?_;(try simp only [acts])
    refine doneL (by kernel_rfl) (NoPanic.normal ?_) _
    clear hS
    repeat' (first|go_values|go_skip|go_guarded|(with_reducible refine wg ?_)|go_step|go_upon)
    exact ⟨⟨k + 1,by omega,by go_num,HB.out.drew⟩,by simp [intOf];omega⟩
  · have HB:=hU hb
    clear hb
    repeat' (first|go_values|go_skip|go_guarded|(with_reducible refine wg ?_)|go_step|go_upon)
    go_ret
    exact gives_of rfl HB.out
def PlR2 (w:World) (pc qc:Array Value) (n:Nat) (v:Value) (W:World):Prop:=∃ k:Nat,k≤n∧v=.int .i64 k∧Hid (W.heap[w.heap.size]? =some (.cells pc 27 (0,0)))∧Hid (W.heap[w.heap.size + 1]? =some (.cells qc 27 (0,0)))∧Hid (Below w.heap.size w W)
theorem EPlan2 (vp vw vc up uw uc:Value) (P:Pl.Plan) (w:World) (h:PlanAt w (.agg (pcells vp vw vc P.fr)) P) (h':PlanAt w (.agg (pcells up uw uc P.fr)) P):
 Calls Tryz.prog 15 #[.agg (pcells vp vw vc P.fr),.agg (pcells up uw uc P.fr)] w (Gives (.bool true) w):=by
 obtain ⟨hup,huw,huc⟩:=planE h
 obtain ⟨gup,guw,guc⟩:=planE h'
 clear h h'
 obtain ⟨ps,fr,ws,cs⟩:=P
 dsimp only at *
 have HUP:=hU hup
 have HUW:=hU huw
 have HUC:=hU huc
 have GUP:=hU gup
 have GUW:=hU guw
 have GUC:=hU guc
 obtain ⟨a1,c1,rfl,n1,_⟩:=hup
 obtain ⟨a2,c2,rfl,n2,_⟩:=huw
 obtain ⟨a3,c3,rfl,n3,_⟩:=huc
 obtain ⟨A1,C1,rfl,_,_⟩:=gup
 obtain ⟨A2,C2,rfl,_,_⟩:=guw
 obtain ⟨A3,C3,rfl,_,_⟩:=guc
 obtain ⟨q0,q1⟩:=two_new w w.heap.size (.cells (pcells (.slice a1 ps.length c1) (.slice a2 ws.length c2) (.slice a3 cs.length c3) fr) 27) (.cells (pcells (.slice A1 ps.length C1) (.slice A2 ws.length C2) (.slice A3 cs.length C3) fr) 27) rfl
 have hb0:Below w.heap.size w ((w.alloc (.cells (pcells (.slice a1 ps.length c1) (.slice a2 ws.length c2) (.slice a3 cs.length c3) fr) 27)).alloc (.cells (pcells (.slice A1 ps.length C1) (.slice A2 ws.length C2) (.slice A3 cs.length C3) fr) 27)):=bel
 obtain ⟨W0,hW0⟩:=exW ((w.alloc (.cells (pcells (.slice a1 ps.length c1) (.slice a2 ws.length c2) (.slice a3 cs.length c3) fr) 27)).alloc (.cells (pcells (.slice A1 ps.length C1) (.slice A2 ws.length C2) (.slice A3 cs.length C3) fr) 27))
 rw [hW0] at q0 q1 hb0
 have HX:=hU q0
 have HY:=hU q1
 have HB:=hU hb0
 have f0:W0.cell? ⟨w.heap.size,0,none⟩=some (.slice a1 ps.length c1):=hcell HX.out 0
 have f1:W0.cell? ⟨w.heap.size,1,none⟩=some (.int .i64 fr):=hcell HX.out 1
 have f2:W0.cell? ⟨w.heap.size,2,none⟩=some (.slice a2 ws.length c2):=hcell HX.out 2
 have f3:W0.cell? ⟨w.heap.size,3,none⟩=some (.slice a3 cs.length c3):=hcell HX.out 3
 have g0:W0.cell? ⟨w.heap.size + 1,0,none⟩=some (.slice A1 ps.length C1):=hcell HY.out 0
 have g1:W0.cell? ⟨w.heap.size + 1,1,none⟩=some (.int .i64 fr):=hcell HY.out 1
 have g2:W0.cell? ⟨w.heap.size + 1,2,none⟩=some (.slice A2 ws.length C2):=hcell HY.out 2
 have g3:W0.cell? ⟨w.heap.size + 1,3,none⟩=some (.slice A3 cs.length C3):=hcell HY.out 3
 clear q0 q1 hb0
 go_enter Tryz.func15,Tryz.ntmps15
 repeat' (first|(rw [hW0];clear hW0)|go_values|go_skip|go_guarded|(with_reducible refine wg ?_)|go_step|go_upon|go_quiet (fail))
 clear f0 f1 f2 f3 g0 g1 g2 g3
 go_loopw [5] (fun v wr=> PlR2 w (pcells (.slice a1 ps.length c1) (.slice a2 ws.length c2) (.slice a3 cs.length c3) fr) (pcells (.slice A1 ps.length C1) (.slice A2 ws.length C2) (.slice A3 cs.length C3) fr) ps.length v wr) (fun v _=> ps.length - (intOf v).toNat)
 case atStart=> exact ⟨0,Nat.zero_le _,rfl,HX,HY,HB⟩
 case round=>
  clear HX HY HB
  obtain ⟨k,hk,rfl,HX,HY,HB⟩:=hrel
  have f0:wr.cell? ⟨w.heap.size,0,none⟩=some (.slice a1 ps.length c1):=hcell HX.out 0
  have f2:wr.cell? ⟨w.heap.size,2,none⟩=some (.slice a2 ws.length c2):=hcell HX.out 2
  have f3:wr.cell? ⟨w.heap.size,3,none⟩=some (.slice a3 cs.length c3):=hcell HX.out 3
  have g0:wr.cell? ⟨w.heap.size + 1,0,none⟩=some (.slice A1 ps.length C1):=hcell HY.out 0
  have g2:wr.cell? ⟨w.heap.size + 1,2,none⟩=some (.slice A2 ws.length C2):=hcell HY.out 2
  have g3:wr.cell? ⟨w.heap.size + 1,3,none⟩=some (.slice A3 cs.length C3):=hcell HY.out 3
  by_cases hlt:k<ps.length
  · obtain ⟨a',c',hav,_,hnil|⟨b,off,rfl,hbl,hcl⟩⟩:=HUP.out
    · rw [hnil] at hlt;exact absurd hlt (Nat.not_lt_zero _)
    cases hav
    have at_:=fun i hi=> (HB.out.cell (p:=⟨b,off + k * 4 + i,none⟩) hbl).trans (hcl k i hlt hi)
    have d0:=at_ 0 (by omega)
    have d1:=at_ 1 (by omega)
    have d2:=at_ 2 (by omega)
    have d3:=at_ 3 (by omega)
    rw [Nat.add_zero] at d0
    have i0:(0:Int)≤(k:Int):=by omega
    have i1:(k:Int)<(ps.length:Int):=by omega
    obtain ⟨a',c',hav,_,hnil|⟨B,oF,rfl,hbL,hcL⟩⟩:=GUP.out
    · rw [hnil] at hlt;exact absurd hlt (Nat.not_lt_zero _)
    cases hav
    have aT_:=fun i hi=> (HB.out.cell (p:=⟨B,oF + k * 4 + i,none⟩) hbL).trans (hcL k i hlt hi)
    have r0:=aT_ 0 (by omega)
    have r1:=aT_ 1 (by omega)
    have r2:=aT_ 2 (by omega)
    have r3:=aT_ 3 (by omega)
    rw [Nat.add_zero] at r0
    clear aT_ hcL at_ hcl
    generalize ps.getD k []=r at *
    have hq:=fun W=> qPart W (Pl.g r 0) (Pl.g r 1) (Pl.g r 2) (Pl.g r 3)
    repeat' (first|go_values|go_skip|go_guarded|(with_reducible refine wg ?_)|go_step|go_upon|go_quiet (fail))
    exact ⟨⟨k + 1,by omega,by go_num,HX,HY,hU (HB.out.trans bel)⟩,by simp [intOf];omega⟩
  · obtain rfl:k=ps.length:=by omega
    have e1:decide ((ps.length:Int)<(ps.length:Int))=false:=by simp
    repeat' (first|go_values|go_skip|go_guarded|(with_reducible refine wg ?_)|go_step|go_upon|go_quiet (fail))
    clear f0 f2 f3 g0 g2 g3
    go_loopw [6] (fun v wr=> PlR2 w (pcells (.slice a1 ps.length c1) (.slice a2 ws.length c2) (.slice a3 cs.length c3) fr) (pcells (.slice A1 ps.length C1) (.slice A2 ws.length C2) (.slice A3 cs.length C3) fr) ws.length v wr) (fun v _=> ws.length - (intOf v).toNat)
    case atStart=> exact ⟨0,Nat.zero_le _,rfl,HX,HY,HB⟩
    case round=>
     clear HX HY HB
     obtain ⟨k,hk,rfl,HX,HY,HB⟩:=hrel
     have f0:wr.cell? ⟨w.heap.size,0,none⟩=some (.slice a1 ps.length c1):=hcell HX.out 0
     have f2:wr.cell? ⟨w.heap.size,2,none⟩=some (.slice a2 ws.length c2):=hcell HX.out 2
     have f3:wr.cell? ⟨w.heap.size,3,none⟩=some (.slice a3 cs.length c3):=hcell HX.out 3
     have g0:wr.cell? ⟨w.heap.size + 1,0,none⟩=some (.slice A1 ps.length C1):=hcell HY.out 0
     have g2:wr.cell? ⟨w.heap.size + 1,2,none⟩=some (.slice A2 ws.length C2):=hcell HY.out 2
     have g3:wr.cell? ⟨w.heap.size + 1,3,none⟩=some (.slice A3 cs.length C3):=hcell HY.out 3
     by_cases hlt:k<ws.length
     · obtain ⟨a',c',hav,_,hnil|⟨b,off,rfl,hbl,hcl⟩⟩:=HUW.out
       · rw [hnil] at hlt;exact absurd hlt (Nat.not_lt_zero _)
       cases hav
       obtain ⟨u,hu,hrow⟩:=hcl k hlt
       have HR:=hU hrow
       obtain ⟨ra,rc,rfl,nr,_⟩:=hrow
       have HCU:=hU hu
       have cu:=(HB.out.cell (p:=⟨b,off + k,none⟩) hbl).trans hu
       obtain ⟨a',c',hav,_,hnil|⟨B,oF,rfl,hbL,hcL⟩⟩:=GUW.out
       · rw [hnil] at hlt;exact absurd hlt (Nat.not_lt_zero _)
       cases hav
       obtain ⟨u,hv,hrow⟩:=hcL k hlt
       have GR:=hU hrow
       obtain ⟨rA,rC,rfl,_,_⟩:=hrow
       have HCV:=hU hv
       have cv:=(HB.out.cell (p:=⟨B,oF + k,none⟩) hbL).trans hv
       have i0:(0:Int)≤(k:Int):=by omega
       have i1:(k:Int)<(ws.length:Int):=by omega
       clear hcl hu hcL hv
       generalize ws.getD k []=row at *
       repeat' (first|go_values|go_skip|go_guarded|(with_reducible refine wg ?_)|go_step|go_upon|go_quiet (fail))
       clear cu cv f0 f2 f3 g0 g2 g3
       go_loopw [7] (fun v wr=> PlR2 w (pcells (.slice a1 ps.length c1) (.slice (some ⟨b,off,none⟩) ws.length c2) (.slice a3 cs.length c3) fr) (pcells (.slice A1 ps.length C1) (.slice (some ⟨B,oF,none⟩) ws.length C2) (.slice A3 cs.length C3) fr) row.length v wr) (fun v _=> row.length - (intOf v).toNat)
       case atStart=> exact ⟨0,Nat.zero_le _,rfl,HX,HY,hU (HB.out.trans bel)⟩
       case round=>
        clear HX HY HB
        obtain ⟨j,hj,rfl,HX,HY,HB⟩:=hrel
        have f0:wr.cell? ⟨w.heap.size,0,none⟩=some (.slice a1 ps.length c1):=hcell HX.out 0
        have f2:wr.cell? ⟨w.heap.size,2,none⟩=some (.slice (some ⟨b,off,none⟩) ws.length c2):=hcell HX.out 2
        have f3:wr.cell? ⟨w.heap.size,3,none⟩=some (.slice a3 cs.length c3):=hcell HX.out 3
        have g0:wr.cell? ⟨w.heap.size + 1,0,none⟩=some (.slice A1 ps.length C1):=hcell HY.out 0
        have g2:wr.cell? ⟨w.heap.size + 1,2,none⟩=some (.slice (some ⟨B,oF,none⟩) ws.length C2):=hcell HY.out 2
        have g3:wr.cell? ⟨w.heap.size + 1,3,none⟩=some (.slice A3 cs.length C3):=hcell HY.out 3
        have cu:=(HB.out.cell (p:=⟨b,off + k,none⟩) hbl).trans HCU.out
        have cv:=(HB.out.cell (p:=⟨B,oF + k,none⟩) hbL).trans HCV.out
        by_cases hjt:j<row.length
        · obtain ⟨e',f',hav,_,hnil|⟨g,og,rfl,hgl,hcl⟩⟩:=HR.out
          · rw [hnil] at hjt;exact absurd hjt (Nat.not_lt_zero _)
          cases hav
          have at_:=fun i hi=> (HB.out.cell (p:=⟨g,og + j * 3 + i,none⟩) hgl).trans (hcl j i hjt hi)
          have d0:=at_ 0 (by omega)
          have d1:=at_ 1 (by omega)
          have d2:=at_ 2 (by omega)
          rw [Nat.add_zero] at d0
          have j0:(0:Int)≤(j:Int):=by omega
          have j1:(j:Int)<(row.length:Int):=by omega
          obtain ⟨e',f',hav,_,hnil|⟨G,oG,rfl,hgL,hcL⟩⟩:=GR.out
          · rw [hnil] at hjt;exact absurd hjt (Nat.not_lt_zero _)
          cases hav
          have aT_:=fun i hi=> (HB.out.cell (p:=⟨G,oG + j * 3 + i,none⟩) hgL).trans (hcL j i hjt hi)
          have r0:=aT_ 0 (by omega)
          have r1:=aT_ 1 (by omega)
          have r2:=aT_ 2 (by omega)
          rw [Nat.add_zero] at r0
          clear aT_ hcL at_ hcl
          generalize row.getD j []=r at *
          have hq:=fun W=> qWin W (Pl.g r 0) (Pl.g r 1) (Pl.g r 2)
          repeat' (first|go_values|go_skip|go_guarded|(with_reducible refine wg ?_)|go_step|go_upon|go_quiet (fail))
          exact ⟨⟨j + 1,by omega,by go_num,HX,HY,hU (HB.out.trans bel)⟩,by simp [intOf];omega⟩
        · obtain rfl:j=row.length:=by omega
          have e1:decide ((row.length:Int)<(row.length:Int))=false:=by simp
          repeat' (first|go_values|go_skip|go_guarded|(with_reducible refine wg ?_)|go_step|go_upon|go_quiet (fail))
          exact ⟨⟨k + 1,by omega,by go_num,HX,HY,HB⟩,by simp [intOf];omega⟩
     · obtain rfl:k=ws.length:=by omega
       have e1:decide ((ws.length:Int)<(ws.length:Int))=false:=by simp
       repeat' (first|go_values|go_skip|go_guarded|(with_reducible refine wg ?_)|go_step|go_upon|go_quiet (fail))
       clear f0 f2 f3 g0 g2 g3
       go_loopw [8] (fun v wr=> PlR2 w (pcells (.slice a1 ps.length c1) (.slice a2 ws.length c2) (.slice a3 cs.length c3) fr) (pcells (.slice A1 ps.length C1) (.slice A2 ws.length C2) (.slice A3 cs.length C3) fr) cs.length v wr) (fun v _=> cs.length - (intOf v).toNat)
       case atStart=> exact ⟨0,Nat.zero_le _,rfl,HX,HY,HB⟩
       case round=>
        clear HX HY HB
        obtain ⟨k,hk,rfl,HX,HY,HB⟩:=hrel
        have f0:wr.cell? ⟨w.heap.size,0,none⟩=some (.slice a1 ps.length c1):=hcell HX.out 0
        have f2:wr.cell? ⟨w.heap.size,2,none⟩=some (.slice a2 ws.length c2):=hcell HX.out 2
        have f3:wr.cell? ⟨w.heap.size,3,none⟩=some (.slice a3 cs.length c3):=hcell HX.out 3
        have g0:wr.cell? ⟨w.heap.size + 1,0,none⟩=some (.slice A1 ps.length C1):=hcell HY.out 0
        have g2:wr.cell? ⟨w.heap.size + 1,2,none⟩=some (.slice A2 ws.length C2):=hcell HY.out 2
        have g3:wr.cell? ⟨w.heap.size + 1,3,none⟩=some (.slice A3 cs.length C3):=hcell HY.out 3
        by_cases hlt:k<cs.length
        · obtain ⟨a',c',hav,_,hnil|⟨b,off,rfl,hbl,hcl⟩⟩:=HUC.out
          · rw [hnil] at hlt;exact absurd hlt (Nat.not_lt_zero _)
          cases hav
          have at_:=fun i hi=> (HB.out.cell (p:=⟨b,off + k * 5 + i,none⟩) hbl).trans (hcl k i hlt hi)
          have d0:=at_ 0 (by omega)
          have d1:=at_ 1 (by omega)
          have d2:=at_ 2 (by omega)
          have d3:=at_ 3 (by omega)
          have d4:=at_ 4 (by omega)
          rw [Nat.add_zero] at d0
          have i0:(0:Int)≤(k:Int):=by omega
          have i1:(k:Int)<(cs.length:Int):=by omega
          obtain ⟨a',c',hav,_,hnil|⟨B,oF,rfl,hbL,hcL⟩⟩:=GUC.out
          · rw [hnil] at hlt;exact absurd hlt (Nat.not_lt_zero _)
          cases hav
          have aT_:=fun i hi=> (HB.out.cell (p:=⟨B,oF + k * 5 + i,none⟩) hbL).trans (hcL k i hlt hi)
          have r0:=aT_ 0 (by omega)
          have r1:=aT_ 1 (by omega)
          have r2:=aT_ 2 (by omega)
          have r3:=aT_ 3 (by omega)
          have r4:=aT_ 4 (by omega)
          rw [Nat.add_zero] at r0
          clear aT_ hcL at_ hcl
          generalize cs.getD k []=r at *
          have hq:=fun W=> qChan W (Pl.g r 0) (Pl.g r 1) (Pl.g r 2) (Pl.g r 3) (Pl.g r 4)
          repeat' (first|go_values|go_skip|go_guarded|(with_reducible refine wg ?_)|go_step|go_upon|go_quiet (fail))
          exact ⟨⟨k + 1,by omega,by go_num,HX,HY,hU (HB.out.trans bel)⟩,by simp [intOf];omega⟩
        · obtain rfl:k=cs.length:=by omega
          have e1:decide ((cs.length:Int)<(cs.length:Int))=false:=by simp
          repeat' (first|go_values|go_skip|go_guarded|(with_reducible refine wg ?_)|go_step|go_upon|go_quiet (fail))
          clear f0 f2 f3 g0 g2 g3
          go_ret
          exact gives_of rfl HB.out
end Hy
end Go.Proofs.YthgehdghihbiaaaGreatDoor
namespace Go.Proofs.YthgehdghihbiaaaGreatDoor
open Go.RowKit KR Kn RegT3
namespace Hy
theorem wantY {P:Program} {ops:Array Oper} {Q:Exit→Act→World→Prop} {o:Oper} {a:Act} {w:World} {K:Act→World→Prop} {E:Prop} (hw:Region.wanted o (yielded ops a.tmps)=true) (h:Oper.wp P o a w K Q):if Region.wanted o (yielded ops a.tmps)=true then Oper.wp P o a w K Q else E:=by
 rw [if_pos hw]
 exact h
def EqR (w:World) (ca cb:Array Value) (n:Nat) (v:Value) (W:World):Prop:=∃ k:Nat,k≤n∧v=.int .i64 k∧Hid (W.heap[w.heap.size]? =some (.cells ca 33 (0,0)))∧Hid (W.heap[w.heap.size + 1]? =some (.cells cb 33 (0,0)))∧Hid (Below w.heap.size w W)
theorem ycellsE (y:YL) (m:Mach):(ycells y m).extract 0 (0 + 4)=pcells y.vp y.vw y.vc m.p.fr:=by
 unfold ycells pcells
 simp
theorem ESys2 (ya yb:YL) (m:Mach) (img:List (List ByteArray)) (w:World) (h1:SysAt w ya m) (h2:SysAt w yb m) (him:ImgAt w ya.im img) (hjm:ImgAt w yb.im img):
 Calls Tryz.prog 7 #[.agg (ycells ya m),.agg (ycells yb m)] w (Gives (.bool true) w):=by
 obtain ⟨q0,q1⟩:=two_new w w.heap.size (.cells (ycells ya m) 33) (.cells (ycells yb m) 33) rfl
 have hb0:Below w.heap.size w ((w.alloc (.cells (ycells ya m) 33)).alloc (.cells (ycells yb m) 33)):=bel
 obtain ⟨W0,hW0⟩:=exW ((w.alloc (.cells (ycells ya m) 33)).alloc (.cells (ycells yb m) 33))
 rw [hW0] at q0 q1 hb0
 have HX:=hU q0
 have HY:=hU q1
 have HB:=hU hb0
 have HPE:=hU (fun W (hb:Below w.heap.size w W)=> EPlan2 ya.vp ya.vw ya.vc yb.vp yb.vw yb.vc m.p W (h1.pl.below hb).pl (h2.pl.below hb).pl)
 have HIM:=hU him
 have HJM:=hU hjm
 obtain ⟨a4,c4,ha4,hy1,hy2,_⟩:=id him
 obtain ⟨b4,d4,hb4,_,_,_⟩:=id hjm
 obtain ⟨a8a,c8a,h8a,_,_⟩:=h1.se.1.shape
 rw [h1.len.1] at h8a
 obtain ⟨a9a,c9a,h9a,_,_⟩:=h1.ar.1.shape
 rw [h1.len.2] at h9a
 obtain ⟨a8b,c8b,h8b,_,_⟩:=h2.se.1.shape
 rw [h2.len.1] at h8b
 obtain ⟨a9b,c9b,h9b,_,_⟩:=h2.ar.1.shape
 rw [h2.len.2] at h9b
 have hn4:img.length≤9223372036854775807:=by omega
 have hn8:m.seats.length≤9223372036854775807:=by have:=h1.len.1;omega
 have hn9:m.arr.length≤9223372036854775807:=by have:=h1.len.2;omega
 have H1:=hU h1
 have H2:=hU h2
 have HSH4:Hid (∃ a c,ya.im=.slice a img.length c∧True):=hU ⟨_,_,ha4,trivial⟩
 have HSH8:Hid (∃ a c,ya.se=.slice a m.seats.length c∧True):=hU ⟨_,_,h8a,trivial⟩
 have HSH9:Hid (∃ a c,ya.ar=.slice a m.arr.length c∧True):=hU ⟨_,_,h9a,trivial⟩
 have HFF:=hU (And.intro ha4 (And.intro hb4 (And.intro h8a (And.intro h9a (And.intro h8b h9b)))))
 clear q0 q1 hb0 him hjm h1 h2 hb4 ha4 h8a h9a h8b h9b
 go_enter Tryz.func7,Tryz.ntmps7
 repeat' (first
  |(rw [hW0];clear hW0)
  |(refine wpList_load (t:=27) (v:=.agg (pcells ya.vp ya.vw ya.vc m.p.fr)) rfl rfl rfl (run_load_part aggPlan HX.out (ycellsE _ _) rfl) ?_)
  |(refine wpList_load (t:=27) (v:=.agg (pcells yb.vp yb.vw yb.vc m.p.fr)) rfl rfl rfl (run_load_part aggPlan HY.out (ycellsE _ _) rfl) ?_)
  |go_values|go_skip|go_guarded|(with_reducible refine wg ?_)|go_step|go_upon)
 refine (HPE.out _ HB.out).mono ?_
 rintro er Wn ⟨rfl,hb⟩
 replace HX:=nB hb HX
 replace HY:=nB hb HY
 replace HB:=nW hb HB
 clear hb HPE
 obtain ⟨ha4,hb4,h8a,h9a,h8b,h9b⟩:=HFF.out
 have f4:Wn.cell? ⟨w.heap.size,4,none⟩=some (.slice a4 img.length c4):=(hcell HX.out 4).trans (congrArg some ha4)
 have f5:Wn.cell? ⟨w.heap.size,5,none⟩=some (.int .u64 m.now):=hcell HX.out 5
 have f6:Wn.cell? ⟨w.heap.size,6,none⟩=some (.int .i64 m.sched):=hcell HX.out 6
 have f7:Wn.cell? ⟨w.heap.size,7,none⟩=some (.int .i64 m.next):=hcell HX.out 7
 have f10:Wn.cell? ⟨w.heap.size,10,none⟩=some (.int .i64 m.owner):=hcell HX.out 10
 have f8:Wn.cell? ⟨w.heap.size,8,none⟩=some (.slice a8a m.seats.length c8a):=(hcell HX.out 8).trans (congrArg some h8a)
 have f9:Wn.cell? ⟨w.heap.size,9,none⟩=some (.slice a9a m.arr.length c9a):=(hcell HX.out 9).trans (congrArg some h9a)
 have g4:Wn.cell? ⟨w.heap.size + 1,4,none⟩=some (.slice b4 img.length d4):=(hcell HY.out 4).trans (congrArg some hb4)
 have g5:Wn.cell? ⟨w.heap.size + 1,5,none⟩=some (.int .u64 m.now):=hcell HY.out 5
 have g6:Wn.cell? ⟨w.heap.size + 1,6,none⟩=some (.int .i64 m.sched):=hcell HY.out 6
 have g7:Wn.cell? ⟨w.heap.size + 1,7,none⟩=some (.int .i64 m.next):=hcell HY.out 7
 have g10:Wn.cell? ⟨w.heap.size + 1,10,none⟩=some (.int .i64 m.owner):=hcell HY.out 10
 have g8:Wn.cell? ⟨w.heap.size + 1,8,none⟩=some (.slice a8b m.seats.length c8b):=(hcell HY.out 8).trans (congrArg some h8b)
 have g9:Wn.cell? ⟨w.heap.size + 1,9,none⟩=some (.slice a9b m.arr.length c9b):=(hcell HY.out 9).trans (congrArg some h9b)
 clear ha4 hb4 h8a h9a h8b h9b HFF
 dsimp only
 repeat' (first|go_skip|go_values|go_skip|go_guarded|(with_reducible refine wg ?_)|go_step|go_upon)
 clear f4 f5 f6 f7 f8 f9 f10 g4 g5 g6 g7 g8 g9 g10
 go_loopw [6] (fun iv wr=> EqR w (ycells ya m) (ycells yb m) img.length iv wr) (fun iv _=> img.length - (intOf iv).toNat)
 case atStart=> exact ⟨0,Nat.zero_le _,rfl,HX,HY,HB⟩
 case round=>
  clear HX HY HB
  obtain ⟨k,hk,rfl,HX,HY,HB⟩:=hrel
  by_cases hkl:k<img.length
  · have e1:decide ((k:Int)<(img.length:Int))=true:=by simp;omega
    have i0:(0:Int)≤(k:Int):=by omega
    have i1:(k:Int)<(img.length:Int):=by omega
    obtain ⟨ai,ci,hai,hz1,hz2,hnil|⟨b,off,rfl,hbl,hcl⟩⟩:=HIM.out
    · rw [hnil] at hkl;exact absurd hkl (Nat.not_lt_zero _)
    obtain ⟨r,hr⟩:∃ r,img[k]? =some r:=⟨_,List.getElem?_eq_getElem hkl⟩
    obtain ⟨u,hu,hrd⟩:=hcl k r hr
    have HRD:=hU hrd
    obtain ⟨ra,rc,rfl,_,_⟩:=hrd
    have HEA:=hU hai
    obtain ⟨aj,cj,haj,_,_,hnil|⟨B,oF,rfl,hbL,hcL⟩⟩:=HJM.out
    · rw [hnil] at hkl;exact absurd hkl (Nat.not_lt_zero _)
    obtain ⟨u',hu',hrd'⟩:=hcL k r hr
    have HRE:=hU hrd'
    obtain ⟨rA,rC,rfl,_,_⟩:=hrd'
    have HEB:=hU haj
    have HCV:Hid (∀ W,Below w.heap.size w W→W.cell? ⟨B,oF + k,none⟩=some (.slice rA r.length rC)):=hU (fun W hb=> (hb.cell (p:=⟨B,_,none⟩) hbL).trans hu')
    have HCU:Hid (∀ W,Below w.heap.size w W→W.cell? ⟨b,off + k,none⟩=some (.slice ra r.length rc)):=hU (fun W hb=> (hb.cell (p:=⟨b,_,none⟩) hbl).trans hu)
    clear hcl hai hr hu hcL haj hu'
    have f1:wr.cell? ⟨w.heap.size,4,none⟩=some (.slice (some ⟨b,off,none⟩) img.length ci):=(hcell HX.out 4).trans (congrArg some HEA.out)
    repeat' (first|go_skip|go_values|go_skip|go_guarded|(with_reducible refine wg ?_)|go_step|go_upon)
    clear f1 e1
    have hSS:∀ W,Below wr.heap.size wr W→W.cell? ⟨w.heap.size,4,none⟩=some (.slice (some ⟨b,off,none⟩) img.length ci)∧W.cell? ⟨w.heap.size + 1,4,none⟩=some (.slice (some ⟨B,oF,none⟩) img.length cj)∧W.cell? ⟨b,off + k,none⟩=some (.slice ra r.length rc)∧W.cell? ⟨B,oF + k,none⟩=some (.slice rA r.length rC):=fun W hb=> ⟨(hcell (nB hb HX).out 4).trans (congrArg some HEA.out),(hcell (nB hb HY).out 4).trans (congrArg some HEB.out),HCU.out W (HB.out.trans (hb.mono HB.out.size)),HCV.out W (HB.out.trans (hb.mono HB.out.size))⟩
    have HSS:=hU hSS
    clear hSS
    refine wp_region_noPanic ?_
    refine go0 (S:=fun W=> W.cell? ⟨w.heap.size,4,none⟩=some (.slice (some ⟨b,off,none⟩) img.length ci)∧W.cell? ⟨w.heap.size + 1,4,none⟩=some (.slice (some ⟨B,oF,none⟩) img.length cj)∧W.cell? ⟨b,off + k,none⟩=some (.slice ra r.length rc)∧W.cell? ⟨B,oF + k,none⟩=some (.slice rA r.length rC)) [] (HSS.out _ bel) fun hS=> ?_
    obtain ⟨Wd,hWd⟩:=exW wr.drew
    have hbd:=dW hWd
    rw [hWd] at hS ⊢
    clear hWd
    refine tp 0 ?_;(try simp only [acts])
    refine tl 1 ?_;(try simp only [acts])
    refine tp 2 ?_;(try simp only [acts])
    refine tp 3 ?_;(try simp only [acts])
    refine tl 4 ?_;(try simp only [acts])
    refine tp 5 ?_;(try simp only [acts])
    refine tl 6 ?_;(try simp only [acts])
    refine tp 7 ?_;(try simp only [acts])
    refine tp 8 ?_;(try simp only [acts])
    refine tl 9 ?_;(try simp only [acts])
    clear hS
    refine ro 10 fun K hK=> ?_
    refine wantY (by rfl) ?_
    go_simp
    have hbw:=HB.out.trans (hbd.mono HB.out.size)
    refine (ETexts2 _ _ r _ (HRD.out.below hbw) (HRE.out.below hbw)).mono ?_
    rintro er Wn ⟨rfl,hb⟩
    have hbb:=hbd.trans (hb.mono hbd.size)
    clear hb hbd hbw
    dsimp only
    refine nx hK (HSS.out _ hbb) fun hS=> ?_
    clear hK K
    (try simp only [acts])
    refine tp 11 ?_;(try simp only [acts])
    refine doneL (by kernel_rfl) (NoPanic.normal ?_) _
    clear hS
    repeat' (first|go_values|go_skip|go_guarded|(with_reducible refine wg ?_)|go_step|go_upon)
    exact ⟨⟨k + 1,by omega,by go_num,nB hbb HX,nB hbb HY,nW hbb HB⟩,by simp [intOf];omega⟩
  · obtain rfl:k=img.length:=by omega
    have e1:decide ((img.length:Int)<(img.length:Int))=false:=by simp
    obtain ⟨al,cl,hal,_⟩:=HSH4.out
    have f1:wr.cell? ⟨w.heap.size,4,none⟩=some (.slice al img.length cl):=(hcell HX.out 4).trans (congrArg some hal)
    repeat' (first|go_skip|go_values|go_skip|go_guarded|(with_reducible refine wg ?_)|go_step|go_upon)
    clear f1 e1 hal
    go_loopw [8] (fun iv wr=> EqR w (ycells ya m) (ycells yb m) m.seats.length iv wr) (fun iv _=> m.seats.length - (intOf iv).toNat)
    case atStart=> exact ⟨0,Nat.zero_le _,rfl,HX,HY,HB⟩
    case round=>
     clear HX HY HB
     obtain ⟨k,hk,rfl,HX,HY,HB⟩:=hrel
     by_cases hkl:k<m.seats.length
     · have e1:decide ((k:Int)<(m.seats.length:Int))=true:=by simp;omega
       have i0:(0:Int)≤(k:Int):=by omega
       have i1:(k:Int)<(m.seats.length:Int):=by omega
       obtain ⟨s,hs⟩:∃ s,m.seats[k]? =some s:=⟨_,List.getElem?_eq_getElem hkl⟩
       obtain ⟨xa,hxa,hxsa,hla⟩:=H1.out.seat hs
       have HLa:=hU hla
       have hela:=H1.out.se.1
       obtain ⟨aa,ca,hsea,_,_⟩:=hela.shape
       rw [hsea] at hela
       obtain ⟨ga,offa,hgaa,hgla,hca⟩:=hela.elem.2.2.2 k xa hxa
       subst hgaa
       rw [H1.out.len.1] at hsea
       have HEA:=hU hsea
       have HCa:Hid (∀ W,Below w.heap.size w W→∀ j u,(scells xa.y s)[j]? =some u→W.cell? ⟨ga,offa + k * 19 + j,none⟩=some u):=hU (fun W hb j u hj=> hca W hb j u (by rw [show SB.cells xa=scells xa.y s by unfold SB.cells;rw [hxsa]];exact hj))
       clear hxa hxsa hla hela hgla hca hsea
       obtain ⟨xb,hxb,hxsb,hlb⟩:=H2.out.seat hs
       have HLb:=hU hlb
       have helb:=H2.out.se.1
       obtain ⟨ab,cb,hseb,_,_⟩:=helb.shape
       rw [hseb] at helb
       obtain ⟨gb,offb,hgab,hglb,hcb⟩:=helb.elem.2.2.2 k xb hxb
       subst hgab
       rw [H2.out.len.1] at hseb
       have HEB:=hU hseb
       have HCb:Hid (∀ W,Below w.heap.size w W→∀ j u,(scells xb.y s)[j]? =some u→W.cell? ⟨gb,offb + k * 19 + j,none⟩=some u):=hU (fun W hb j u hj=> hcb W hb j u (by rw [show SB.cells xb=scells xb.y s by unfold SB.cells;rw [hxsb]];exact hj))
       clear hxb hxsb hlb helb hglb hcb hseb
       clear hs
       have f1:wr.cell? ⟨w.heap.size,8,none⟩=some (.slice (some ⟨ga,offa,none⟩) m.seats.length ca):=(hcell HX.out 8).trans (congrArg some HEA.out)
       repeat' (first|go_skip|go_values|go_skip|go_guarded|(with_reducible refine wg ?_)|go_step|go_upon)
       clear f1 e1
       have hSS:∀ W,Below wr.heap.size wr W→W.cell? ⟨w.heap.size,8,none⟩=some (.slice (some ⟨ga,offa,none⟩) m.seats.length ca)∧W.cell? ⟨w.heap.size + 1,8,none⟩=some (.slice (some ⟨gb,offb,none⟩) m.seats.length cb)∧(∀ j u,(scells xa.y s)[j]? =some u→W.cell? ⟨ga,offa + k * 19 + j,none⟩=some u)∧(∀ j u,(scells xb.y s)[j]? =some u→W.cell? ⟨gb,offb + k * 19 + j,none⟩=some u):=fun W hb=> ⟨(hcell (nB hb HX).out 8).trans (congrArg some HEA.out),(hcell (nB hb HY).out 8).trans (congrArg some HEB.out),HCa.out W (HB.out.trans (hb.mono HB.out.size)),HCb.out W (HB.out.trans (hb.mono HB.out.size))⟩
       have HSS:=hU hSS
       clear hSS
       refine wp_region_noPanic ?_
       refine go0 (S:=fun W=> W.cell? ⟨w.heap.size,8,none⟩=some (.slice (some ⟨ga,offa,none⟩) m.seats.length ca)∧W.cell? ⟨w.heap.size + 1,8,none⟩=some (.slice (some ⟨gb,offb,none⟩) m.seats.length cb)∧(∀ j u,(scells xa.y s)[j]? =some u→W.cell? ⟨ga,offa + k * 19 + j,none⟩=some u)∧(∀ j u,(scells xb.y s)[j]? =some u→W.cell? ⟨gb,offb + k * 19 + j,none⟩=some u)) [] (HSS.out _ bel) fun hS=> ?_
       obtain ⟨Wd,hWd⟩:=exW wr.drew
       have hbd:=dW hWd
       rw [hWd] at hS ⊢
       clear hWd
       refine tp 0 ?_;(try simp only [acts])
       refine tl 1 ?_;(try simp only [acts])
       refine tp 2 ?_;(try simp only [acts])
       refine tp 3 ?_;(try simp only [acts])
       refine tv 4 (.agg (scells xa.y s)) (fun W hSW=> run_val_load rfl rfl (run_load_arr aggSeat rfl hSW.2.2.1)) ?_;(try simp only [acts])
       refine tp 5 ?_;(try simp only [acts])
       refine tl 6 ?_;(try simp only [acts])
       refine tp 7 ?_;(try simp only [acts])
       refine tp 8 ?_;(try simp only [acts])
       refine tv 9 (.agg (scells xb.y s)) (fun W hSW=> run_val_load rfl rfl (run_load_arr aggSeat rfl hSW.2.2.2)) ?_;(try simp only [acts])
       clear hS
       refine ro 10 fun K hK=> ?_
       refine wantY (by rfl) ?_
       go_simp
       have hbw:=HB.out.trans (hbd.mono HB.out.size)
       refine (SameSeat _ _ s _ ⟨_,_,rfl,HLa.out.below hbw⟩ ⟨_,_,rfl,HLb.out.below hbw⟩).mono ?_
       rintro er Wn ⟨rfl,hb⟩
       have hbb:=hbd.trans (hb.mono hbd.size)
       clear hb hbd hbw
       dsimp only
       refine nx hK (HSS.out _ hbb) fun hS=> ?_
       clear hK K
       (try simp only [acts])
       refine tp 11 ?_;(try simp only [acts])
       refine doneL (by kernel_rfl) (NoPanic.normal ?_) _
       clear hS
       repeat' (first|go_values|go_skip|go_guarded|(with_reducible refine wg ?_)|go_step|go_upon)
       exact ⟨⟨k + 1,by omega,by go_num,nB hbb HX,nB hbb HY,nW hbb HB⟩,by simp [intOf];omega⟩
     · obtain rfl:k=m.seats.length:=by omega
       have e1:decide ((m.seats.length:Int)<(m.seats.length:Int))=false:=by simp
       obtain ⟨al,cl,hal,_⟩:=HSH8.out
       have f1:wr.cell? ⟨w.heap.size,8,none⟩=some (.slice al m.seats.length cl):=(hcell HX.out 8).trans (congrArg some hal)
       repeat' (first|go_skip|go_values|go_skip|go_guarded|(with_reducible refine wg ?_)|go_step|go_upon)
       clear f1 e1 hal
       go_loopw [10] (fun iv wr=> EqR w (ycells ya m) (ycells yb m) m.arr.length iv wr) (fun iv _=> m.arr.length - (intOf iv).toNat)
       case atStart=> exact ⟨0,Nat.zero_le _,rfl,HX,HY,HB⟩
       case round=>
        clear HX HY HB
        obtain ⟨k,hk,rfl,HX,HY,HB⟩:=hrel
        by_cases hkl:k<m.arr.length
        · have e1:decide ((k:Int)<(m.arr.length:Int))=true:=by simp;omega
          have i0:(0:Int)≤(k:Int):=by omega
          have i1:(k:Int)<(m.arr.length:Int):=by omega
          obtain ⟨s,hs⟩:∃ s,m.arr[k]? =some s:=⟨_,List.getElem?_eq_getElem hkl⟩
          obtain ⟨xa,hxa,hxsa⟩:∃ x,ya.la[k]? =some x∧x.l=s:=by
           have h0:=hs
           rw [← H1.out.al,List.getElem?_map] at h0
           exact Option.map_eq_some_iff.1 h0
          have hla:=H1.out.ar.2 xa (List.mem_of_getElem? hxa)
          rw [hxsa] at hla
          have HLa:=hU hla
          obtain ⟨eaa,eca,heva,_,_⟩:=hla.shape
          rw [heva] at HLa
          have hela:=H1.out.ar.1
          obtain ⟨aa,ca,hsea,_,_⟩:=hela.shape
          rw [hsea] at hela
          obtain ⟨ga,offa,hgaa,hgla,hca⟩:=hela.elem.2.2.2 k xa hxa
          subst hgaa
          rw [H1.out.len.2] at hsea
          have HEA:=hU hsea
          have HCa:Hid (∀ W,Below w.heap.size w W→W.cell? ⟨ga,offa + k,none⟩=some (.slice eaa s.length eca)):=hU (fun W hb=> by
           have:=hca W hb 0 _ rfl
           rw [Nat.mul_one,Nat.add_zero] at this
           exact this.trans (congrArg some heva))
          clear hxa hxsa hla hela hgla hca hsea heva
          obtain ⟨xb,hxb,hxsb⟩:∃ x,yb.la[k]? =some x∧x.l=s:=by
           have h0:=hs
           rw [← H2.out.al,List.getElem?_map] at h0
           exact Option.map_eq_some_iff.1 h0
          have hlb:=H2.out.ar.2 xb (List.mem_of_getElem? hxb)
          rw [hxsb] at hlb
          have HLb:=hU hlb
          obtain ⟨eab,ecb,hevb,_,_⟩:=hlb.shape
          rw [hevb] at HLb
          have helb:=H2.out.ar.1
          obtain ⟨ab,cb,hseb,_,_⟩:=helb.shape
          rw [hseb] at helb
          obtain ⟨gb,offb,hgab,hglb,hcb⟩:=helb.elem.2.2.2 k xb hxb
          subst hgab
          rw [H2.out.len.2] at hseb
          have HEB:=hU hseb
          have HCb:Hid (∀ W,Below w.heap.size w W→W.cell? ⟨gb,offb + k,none⟩=some (.slice eab s.length ecb)):=hU (fun W hb=> by
           have:=hcb W hb 0 _ rfl
           rw [Nat.mul_one,Nat.add_zero] at this
           exact this.trans (congrArg some hevb))
          clear hxb hxsb hlb helb hglb hcb hseb hevb
          clear hs
          have f1:wr.cell? ⟨w.heap.size,9,none⟩=some (.slice (some ⟨ga,offa,none⟩) m.arr.length ca):=(hcell HX.out 9).trans (congrArg some HEA.out)
          repeat' (first|go_skip|go_values|go_skip|go_guarded|(with_reducible refine wg ?_)|go_step|go_upon)
          clear f1 e1
          have hSS:∀ W,Below wr.heap.size wr W→W.cell? ⟨w.heap.size,9,none⟩=some (.slice (some ⟨ga,offa,none⟩) m.arr.length ca)∧W.cell? ⟨w.heap.size + 1,9,none⟩=some (.slice (some ⟨gb,offb,none⟩) m.arr.length cb)∧W.cell? ⟨ga,offa + k,none⟩=some (.slice eaa s.length eca)∧W.cell? ⟨gb,offb + k,none⟩=some (.slice eab s.length ecb):=fun W hb=> ⟨(hcell (nB hb HX).out 9).trans (congrArg some HEA.out),(hcell (nB hb HY).out 9).trans (congrArg some HEB.out),HCa.out W (HB.out.trans (hb.mono HB.out.size)),HCb.out W (HB.out.trans (hb.mono HB.out.size))⟩
          have HSS:=hU hSS
          clear hSS
          refine wp_region_noPanic ?_
          refine go0 (S:=fun W=> W.cell? ⟨w.heap.size,9,none⟩=some (.slice (some ⟨ga,offa,none⟩) m.arr.length ca)∧W.cell? ⟨w.heap.size + 1,9,none⟩=some (.slice (some ⟨gb,offb,none⟩) m.arr.length cb)∧W.cell? ⟨ga,offa + k,none⟩=some (.slice eaa s.length eca)∧W.cell? ⟨gb,offb + k,none⟩=some (.slice eab s.length ecb)) [] (HSS.out _ bel) fun hS=> ?_
          obtain ⟨Wd,hWd⟩:=exW wr.drew
          have hbd:=dW hWd
          rw [hWd] at hS ⊢
          clear hWd
          refine tp 0 ?_;(try simp only [acts])
          refine tl 1 ?_;(try simp only [acts])
          refine tp 2 ?_;(try simp only [acts])
          refine tp 3 ?_;(try simp only [acts])
          refine tl 4 ?_;(try simp only [acts])
          refine tp 5 ?_;(try simp only [acts])
          refine tl 6 ?_;(try simp only [acts])
          refine tp 7 ?_;(try simp only [acts])
          refine tp 8 ?_;(try simp only [acts])
          refine tl 9 ?_;(try simp only [acts])
          clear hS
          refine ro 10 fun K hK=> ?_
          refine wantY (by rfl) ?_
          go_simp
          have hbw:=HB.out.trans (hbd.mono HB.out.size)
          refine (EStamps _ _ s _ (HLa.out.below hbw) (HLb.out.below hbw)).mono ?_
          rintro er Wn ⟨rfl,hb⟩
          have hbb:=hbd.trans (hb.mono hbd.size)
          clear hb hbd hbw
          dsimp only
          refine nx hK (HSS.out _ hbb) fun hS=> ?_
          clear hK K
          (try simp only [acts])
          refine tp 11 ?_;(try simp only [acts])
          refine doneL (by kernel_rfl) (NoPanic.normal ?_) _
          clear hS
          repeat' (first|go_values|go_skip|go_guarded|(with_reducible refine wg ?_)|go_step|go_upon)
          exact ⟨⟨k + 1,by omega,by go_num,nB hbb HX,nB hbb HY,nW hbb HB⟩,by simp [intOf];omega⟩
        · obtain rfl:k=m.arr.length:=by omega
          have e1:decide ((m.arr.length:Int)<(m.arr.length:Int))=false:=by simp
          obtain ⟨al,cl,hal,_⟩:=HSH9.out
          have f1:wr.cell? ⟨w.heap.size,9,none⟩=some (.slice al m.arr.length cl):=(hcell HX.out 9).trans (congrArg some hal)
          repeat' (first|go_skip|go_values|go_skip|go_guarded|(with_reducible refine wg ?_)|go_step|go_upon)
          clear f1 e1 hal
          go_ret
          exact gives_of rfl HB.out
end Hy
end Go.Proofs.YthgehdghihbiaaaGreatDoor
