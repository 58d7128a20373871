/- transomref05.Check: which plans may be. Condition: a frame is an integer. -/
import Derived.Test.YthgehdghihbiaaaGreatDoorGPlR
set_option linter.unusedVariables false
set_option maxRecDepth 100000
set_option maxHeartbeats 60000000
set_option linter.unusedSimpArgs false
namespace Go.Proofs.YthgehdghihbiaaaGreatDoor
open Go.RowKit
namespace RfP
theorem check_big {ps cs:List (List Int)} {fr:Int} {ws:List (List (List Int))} (h:4<ps.length∨3<ws.length∨6<cs.length∨ws.any (fun l=> decide (8<l.length))=true):Pl.check ⟨ps,fr,ws,cs⟩=4:=by
 unfold Pl.check
 rw [if_pos h]
theorem check_none {ps cs:List (List Int)} {fr:Int} {ws:List (List (List Int))} (h4:ps.length≤4) (h3:ws.length≤3) (h6:cs.length≤6) (HA:ws.any (fun l=> decide (8<l.length))=false) (h:ps.length=0∨ws.length=0):Pl.check ⟨ps,fr,ws,cs⟩=1:=by
 unfold Pl.check
 rw [if_neg (by simp only [HA];simp;omega),if_pos h]
theorem check_bad {ps cs:List (List Int)} {fr:Int} {ws:List (List (List Int))} (h4:ps.length≤4) (h3:ws.length≤3) (h6:cs.length≤6) (HA:ws.any (fun l=> decide (8<l.length))=false) (h:ps.any (fun r=> !Pl.partB r)=true∨fr<1∨4096<fr):Pl.check ⟨ps,fr,ws,cs⟩=1:=by
 unfold Pl.check
 rw [if_neg (by simp only [HA];simp;omega)]
 by_cases h0:ps.length=0∨ws.length=0
 · rw [if_pos h0]
 · rw [if_neg h0,if_pos h]
structure On (w:World) (fr:Int) (ap aw ac:Value) (W:World):Prop where
 bel:Below w.heap.size w W
 a:Plan.PlanCell W w.heap.size ap fr aw ac
theorem On.below {w W W':World} {fr:Int} {ap aw ac:Value} (h:On w fr ap aw ac W) (hb:Below W.heap.size W W'):On w fr ap aw ac W':=
 ⟨h.bel.trans (hb.mono h.bel.size),h.a.below hb⟩
def BigYes (w:World) (fr:Int) (ap aw ac:Value) (ws:List (List (List Int))) (vb v:Value) (wr:World):Prop:=
 ∃ k:Nat,k≤ws.length∧v=.int .i64 k∧vb=.bool true∧On w fr ap aw ac wr
def BigAt (w:World) (fr:Int) (ap aw ac:Value) (ws:List (List (List Int))) (b0:Bool) (vb v:Value) (wr:World):Prop:=
 ∃ (k:Nat) (bv:Bool),k≤ws.length∧v=.int .i64 k∧vb=.bool bv∧On w fr ap aw ac wr∧(bv||(ws.drop k).any (fun l=> decide (8<l.length)))=(b0||ws.any (fun l=> decide (8<l.length)))
def PartsAt (w:World) (fr:Int) (ap aw ac:Value) (ps:List (List Int)) (v:Value) (wr:World):Prop:=
 ∃ k:Nat,k≤ps.length∧v=.int .i64 k∧On w fr ap aw ac wr∧ps.any (fun r=> !Pl.partB r)=(ps.drop k).any (fun r=> !Pl.partB r)
theorem part_mod {r:List Int} (h:Pl.partB r=true):Pl.g r 0 % 4=0:=by
 simp only [Pl.partB,Bool.and_eq_true,beq_iff_eq] at h
 exact h.2.2.1
def WinsLoop (w:World) (fr:Int) (ap aw ac:Value) (np:Int) (ws:List (List (List Int))) (v:Value) (wr:World):Prop:=
 ∃ k:Nat,k≤ws.length∧v=.int .i64 k∧On w fr ap aw ac wr∧Pl.winsE np fr ws=Pl.winsE np fr (ws.drop k)
def RowLoop (w:World) (fr:Int) (ap aw ac:Value) (np:Int) (l:List (List Int)) (v:Value) (wr:World):Prop:=
 ∃ (k:Nat) (b:Int),k≤l.length∧v=.int .i64 k∧(k=0→b=0)∧(k ≠ 0→b=Pl.g (l.getD (k - 1) []) 1 + Pl.g (l.getD (k - 1) []) 2)∧0≤b∧b≤fr∧On w fr ap aw ac wr∧Pl.rowE np fr l 0=Pl.rowE np fr (l.drop k) b
def ChansAt (w:World) (fr:Int) (ap aw ac:Value) (np:Int) (cs:List (List Int)) (v:Value) (wr:World):Prop:=
 ∃ k:Nat,k≤cs.length∧v=.int .i64 k∧On w fr ap aw ac wr∧cs.any (fun r=> !Pl.chanB np r)=(cs.drop k).any (fun r=> !Pl.chanB np r)
theorem part_of_facts {r:List Int} (m1:64≤Pl.g r 0) (m2:Pl.g r 0≤1024) (m3:Pl.g r 0 % 4=0) (o1:1≤Pl.g r 1) (o2:Pl.g r 1≤3) (o3:1≤Pl.g r 2) (o4:Pl.g r 2≤3) (o5:1≤Pl.g r 3) (o6:Pl.g r 3≤3):Pl.partB r=true:=by
 simp only [Pl.partB,Pl.odd3,Pl.odd,Bool.and_eq_true,decide_eq_true_eq,Bool.not_eq_true',Bool.or_eq_false_iff,decide_eq_false_iff_not,beq_iff_eq]
 omega
theorem big_next {ws:List (List (List Int))} {k:Nat} {bv B:Bool} (hk:k<ws.length) (h:(bv||(ws.drop k).any (fun l=> decide (8<l.length)))=B):((bv||decide (8<((ws.getD k []).length:Int)))||(ws.drop (k + 1)).any (fun l=> decide (8<l.length)))=B:=by
 rw [← h,List.drop_eq_getElem_cons hk,List.any_cons,List.getD_eq_getElem?_getD,List.getElem?_eq_getElem hk,Option.getD_some,Bool.or_assoc]
 congr 2
 rw [decide_eq_decide]
 omega
theorem Check (v:Value) (P:Pl.Plan) (w:World) (h:PlanAt w v P) (hfr:P.fr≤9223372036854775807):
 Calls Tryz.prog 37 #[v] w (Gives (.int .i64 (Pl.check P)) w):=by
 obtain ⟨up,uw,uc,rfl,hup,huw,huc⟩:=h
 obtain ⟨ps,fr,ws,cs⟩:=P
 dsimp only at *
 have HP:=hU hup
 have HW:=hU huw
 have HC:=hU huc
 obtain ⟨a1,c1,rfl,n1,_⟩:=hup
 obtain ⟨a2,c2,rfl,n2,_⟩:=huw
 obtain ⟨a3,c3,rfl,n3,_⟩:=huc
 by_cases b1:(4:Int)<ps.length
 · as_aux_lemma=>
   have HBIG:=hU (check_big (cs:=cs) (fr:=fr) (ws:=ws) (.inl (show 4<ps.length by omega)))
   go_enter Tryz.func37,Tryz.ntmps37
   repeat' (first|go_values|go_skip|go_guarded|(with_reducible refine wg ?_)|go_step|go_upon|go_quiet (fail))
   go_loopw [3,4] (fun vb v wr=> BigYes w fr (.slice a1 ps.length c1) (.slice a2 ws.length c2) (.slice a3 cs.length c3) ws vb v wr) (fun _ v _=> ws.length - (intOf v).toNat)
   case atStart=> exact ⟨0,Nat.zero_le _,rfl,by go_simp,⟨bel,⟨by go_simp,by go_simp,by go_simp,by go_simp,by go_simp⟩⟩⟩
   case round=>
    obtain ⟨k,hk,rfl,rfl,hon⟩:=hrel
    have HON:=hU hon
    have HBl:=hU hon.bel
    obtain ⟨hbs,⟨ha0,ha1,ha2,ha3,ha4⟩⟩:=hon
    by_cases hlt:k<ws.length
    · obtain ⟨a',c',hav,hn',hnil|⟨b,off,rfl,hbl,hcell⟩⟩:=HW.out
      · rw [hnil] at hlt;exact absurd hlt (Nat.not_lt_zero _)
      cases hav
      obtain ⟨u,hu,hrow⟩:=hcell k hlt
      obtain ⟨ra,rc,rfl,nr,_⟩:=hrow
      have cu:=(HBl.out.cell (p:=⟨b,off + k,none⟩) hbl).trans hu
      clear hcell hu
      repeat' (first|go_values|go_skip|go_guarded|(with_reducible refine wg ?_)|go_step|go_upon|go_quiet (fail))
      exact ⟨⟨k + 1,by omega,by go_num,rfl,HON.out.below bel⟩,by simp [intOf];omega⟩
    · repeat' (first|go_values|go_skip|go_guarded|(with_reducible refine wg ?_)|go_step|go_upon|go_quiet (fail))
      go_ret
      have hB:=HBl.out
      exact gives_int HBIG.out.symm bel
 by_cases b2:(3:Int)<ws.length
 · as_aux_lemma=>
   have HBIG:=hU (check_big (ps:=ps) (cs:=cs) (fr:=fr) (.inr (.inl (show 3<ws.length by omega))))
   go_enter Tryz.func37,Tryz.ntmps37
   repeat' (first|go_values|go_skip|go_guarded|(with_reducible refine wg ?_)|go_step|go_upon|go_quiet (fail))
   go_loopw [3,4] (fun vb v wr=> BigYes w fr (.slice a1 ps.length c1) (.slice a2 ws.length c2) (.slice a3 cs.length c3) ws vb v wr) (fun _ v _=> ws.length - (intOf v).toNat)
   case atStart=> exact ⟨0,Nat.zero_le _,rfl,by go_simp,⟨bel,⟨by go_simp,by go_simp,by go_simp,by go_simp,by go_simp⟩⟩⟩
   case round=>
    obtain ⟨k,hk,rfl,rfl,hon⟩:=hrel
    have HON:=hU hon
    have HBl:=hU hon.bel
    obtain ⟨hbs,⟨ha0,ha1,ha2,ha3,ha4⟩⟩:=hon
    by_cases hlt:k<ws.length
    · obtain ⟨a',c',hav,hn',hnil|⟨b,off,rfl,hbl,hcell⟩⟩:=HW.out
      · rw [hnil] at hlt;exact absurd hlt (Nat.not_lt_zero _)
      cases hav
      obtain ⟨u,hu,hrow⟩:=hcell k hlt
      obtain ⟨ra,rc,rfl,nr,_⟩:=hrow
      have cu:=(HBl.out.cell (p:=⟨b,off + k,none⟩) hbl).trans hu
      clear hcell hu
      repeat' (first|go_values|go_skip|go_guarded|(with_reducible refine wg ?_)|go_step|go_upon|go_quiet (fail))
      exact ⟨⟨k + 1,by omega,by go_num,rfl,HON.out.below bel⟩,by simp [intOf];omega⟩
    · repeat' (first|go_values|go_skip|go_guarded|(with_reducible refine wg ?_)|go_step|go_upon|go_quiet (fail))
      go_ret
      have hB:=HBl.out
      exact gives_int HBIG.out.symm bel
 by_cases b3:(6:Int)<cs.length
 · as_aux_lemma=>
   have HBIG:=hU (check_big (ps:=ps) (ws:=ws) (fr:=fr) (.inr (.inr (.inl (show 6<cs.length by omega)))))
   go_enter Tryz.func37,Tryz.ntmps37
   repeat' (first|go_values|go_skip|go_guarded|(with_reducible refine wg ?_)|go_step|go_upon|go_quiet (fail))
   go_loopw [3,4] (fun vb v wr=> BigYes w fr (.slice a1 ps.length c1) (.slice a2 ws.length c2) (.slice a3 cs.length c3) ws vb v wr) (fun _ v _=> ws.length - (intOf v).toNat)
   case atStart=> exact ⟨0,Nat.zero_le _,rfl,by go_simp,⟨bel,⟨by go_simp,by go_simp,by go_simp,by go_simp,by go_simp⟩⟩⟩
   case round=>
    obtain ⟨k,hk,rfl,rfl,hon⟩:=hrel
    have HON:=hU hon
    have HBl:=hU hon.bel
    obtain ⟨hbs,⟨ha0,ha1,ha2,ha3,ha4⟩⟩:=hon
    by_cases hlt:k<ws.length
    · obtain ⟨a',c',hav,hn',hnil|⟨b,off,rfl,hbl,hcell⟩⟩:=HW.out
      · rw [hnil] at hlt;exact absurd hlt (Nat.not_lt_zero _)
      cases hav
      obtain ⟨u,hu,hrow⟩:=hcell k hlt
      obtain ⟨ra,rc,rfl,nr,_⟩:=hrow
      have cu:=(HBl.out.cell (p:=⟨b,off + k,none⟩) hbl).trans hu
      clear hcell hu
      repeat' (first|go_values|go_skip|go_guarded|(with_reducible refine wg ?_)|go_step|go_upon|go_quiet (fail))
      exact ⟨⟨k + 1,by omega,by go_num,rfl,HON.out.below bel⟩,by simp [intOf];omega⟩
    · repeat' (first|go_values|go_skip|go_guarded|(with_reducible refine wg ?_)|go_step|go_upon|go_quiet (fail))
      go_ret
      have hB:=HBl.out
      exact gives_int HBIG.out.symm bel
 go_enter Tryz.func37,Tryz.ntmps37
 repeat' (first|go_values|go_skip|go_guarded|(with_reducible refine wg ?_)|go_step|go_upon|go_quiet (fail))
 go_loopw [3,4] (fun vb v wr=> BigAt w fr (.slice a1 ps.length c1) (.slice a2 ws.length c2) (.slice a3 cs.length c3) ws false vb v wr) (fun _ v _=> ws.length - (intOf v).toNat)
 case atStart=> exact ⟨0,false,Nat.zero_le _,rfl,by go_simp,⟨bel,⟨by go_simp,by go_simp,by go_simp,by go_simp,by go_simp⟩⟩,by rw [List.drop_zero]⟩
 case round=>
  obtain ⟨k,bv,hk,rfl,rfl,hon,hany⟩:=hrel
  have HON:=hU hon
  have HA:=hU hany
  have HBl:=hU hon.bel
  obtain ⟨hbs,⟨ha0,ha1,ha2,ha3,ha4⟩⟩:=hon
  clear hany
  by_cases hlt:k<ws.length
  · obtain ⟨a',c',hav,hn',hnil|⟨b,off,rfl,hbl,hcell⟩⟩:=HW.out
    · rw [hnil] at hlt;exact absurd hlt (Nat.not_lt_zero _)
    cases hav
    obtain ⟨u,hu,hrow⟩:=hcell k hlt
    obtain ⟨ra,rc,rfl,nr,_⟩:=hrow
    have cu:=(HBl.out.cell (p:=⟨b,off + k,none⟩) hbl).trans hu
    have HE:=hU (big_next hlt HA.out)
    clear hcell hu
    generalize ws.getD k []=row at *
    cases bv
    all_goals
     repeat' (first|go_values|go_skip|go_guarded|(with_reducible refine wg ?_)|go_step|go_upon|go_quiet (fail))
     exact ⟨⟨k + 1,_,by omega,by go_num,rfl,HON.out.below bel,by simpa using HE.out⟩,by simp [intOf];omega⟩
  · have hany:=HA.out
    rw [List.drop_of_length_le (by omega),List.any_nil,Bool.or_false,Bool.false_or] at hany
    clear HA
    cases bv
    · have HA:=hU hany.symm
      clear hany
      have h4:ps.length≤4:=by omega
      have h3:ws.length≤3:=by omega
      have h6:cs.length≤6:=by omega
      by_cases p0:ps=[]
      · as_aux_lemma=>
        have HR:=hU (check_none (cs:=cs) (fr:=fr) h4 h3 h6 HA.out (.inl (show ps.length=0 by rw [p0];rfl)))
        repeat' (first|go_values|go_skip|go_guarded|(with_reducible refine wg ?_)|go_step|go_upon|go_quiet (fail))
        go_ret
        have hB:=HBl.out
        exact gives_int HR.out.symm bel
      by_cases w0:ws=[]
      · as_aux_lemma=>
        have HR:=hU (check_none (ps:=ps) (cs:=cs) (fr:=fr) h4 h3 h6 HA.out (.inr (show ws.length=0 by rw [w0];rfl)))
        repeat' (first|go_values|go_skip|go_guarded|(with_reducible refine wg ?_)|go_step|go_upon|go_quiet (fail))
        go_ret
        have hB:=HBl.out
        exact gives_int HR.out.symm bel
      have e1:((ps.length:Int)==0)=false:=by simp [p0]
      have e2:((ws.length:Int)==0)=false:=by simp [w0]
      have P0:=hU p0
      have W0:=hU w0
      clear p0 w0
      repeat' (first|go_values|go_skip|go_guarded|(with_reducible refine wg ?_)|go_step|go_upon|go_quiet (fail))
      clear hk hlt
      go_loopw [5] (fun v wr=> PartsAt w fr (.slice a1 ps.length c1) (.slice a2 ws.length c2) (.slice a3 cs.length c3) ps v wr) (fun v _=> ps.length - (intOf v).toNat)
      case atStart=> exact ⟨0,Nat.zero_le _,rfl,HON.out.below bel,by rw [List.drop_zero]⟩
      case round=>
       clear HON HBl hbs ha0 ha1 ha2 ha3 ha4
       obtain ⟨k,hk,rfl,hon,hany⟩:=hrel
       have HON:=hU hon
       have HS:=hU hany
       have HBl:=hU hon.bel
       obtain ⟨hbs,⟨ha0,ha1,ha2,ha3,ha4⟩⟩:=hon
       clear hany
       by_cases hlt:k<ps.length
       · obtain ⟨a',c',hav,_,hnil|⟨b,off,rfl,hbl,hcell⟩⟩:=HP.out
         · rw [hnil] at hlt;exact absurd hlt (Nat.not_lt_zero _)
         cases hav
         have at_:=fun i hi=> (HBl.out.cell (p:=⟨b,off + k * 4 + i,none⟩) hbl).trans (hcell k i hlt hi)
         have d0:=at_ 0 (by omega)
         have d1:=at_ 1 (by omega)
         have d2:=at_ 2 (by omega)
         have d3:=at_ 3 (by omega)
         rw [Nat.add_zero] at d0
         have HHIT:=hU (fun h=> seek_hit hlt (getD_some (d:=[]) hlt) HS.out h)
         have HMISS:=hU (fun h=> seek_miss hlt (getD_some (d:=[]) hlt) HS.out h)
         clear at_ hcell
         generalize ps.getD k []=r at *
         by_cases hpb:Pl.partB r=true
         · as_aux_lemma=>
           obtain ⟨q0,q1,q2,q3,q4,q5,q6,q7⟩:=Pl.part_facts hpb
           have q8:Pl.g r 0 % 4=0:=part_mod hpb
           have HX:=hU (HMISS.out (by rw [hpb];rfl))
           clear hpb HHIT HMISS
           repeat' (first|go_values|go_skip|go_guarded|(with_reducible refine wg ?_)|go_step|go_upon|go_quiet (fail))
           refine wp_loop_rounds 4 ?_
           rw [rounds_succ]
           repeat' (first|go_values|go_skip|go_guarded|(with_reducible refine wg ?_)|go_step|go_upon|go_quiet (fail))
           rw [rounds_succ]
           repeat' (first|go_values|go_skip|go_guarded|(with_reducible refine wg ?_)|go_step|go_upon|go_quiet (fail))
           rw [rounds_succ]
           repeat' (first|go_values|go_skip|go_guarded|(with_reducible refine wg ?_)|go_step|go_upon|go_quiet (fail))
           rw [rounds_succ]
           repeat' (first|go_values|go_skip|go_guarded|(with_reducible refine wg ?_)|go_step|go_upon|go_quiet (fail))
           exact ⟨⟨k + 1,by omega,by go_num,HON.out.below bel,HX.out⟩,by simp [intOf];omega⟩
         · as_aux_lemma=>
           have HX:=hU (check_bad (cs:=cs) (fr:=fr) h4 h3 h6 HA.out (.inl (HHIT.out (by simp [hpb]))))
           clear HHIT HMISS
           have hB:=HBl.out
           by_cases hm:64≤Pl.g r 0∧Pl.g r 0≤1024∧Pl.g r 0 % 4=0
           · obtain ⟨m1,m2,m3⟩:=hm
             by_cases o1:1≤Pl.g r 1∧Pl.g r 1≤3
             · obtain ⟨o1,o2⟩:=o1
               by_cases o3:1≤Pl.g r 2∧Pl.g r 2≤3
               · obtain ⟨o3,o4⟩:=o3
                 have o5:¬ (1≤Pl.g r 3∧Pl.g r 3≤3):=fun h=> hpb (part_of_facts m1 m2 m3 o1 o2 o3 o4 h.1 h.2)
                 repeat' (first|go_values|go_skip|go_guarded|(with_reducible refine wg ?_)|go_step|go_upon|go_quiet (fail))
                 refine wp_loop_rounds 4 ?_
                 rw [rounds_succ]
                 repeat' (first|go_values|go_skip|go_guarded|(with_reducible refine wg ?_)|go_step|go_upon|go_quiet (fail))
                 rw [rounds_succ]
                 repeat' (first|go_values|go_skip|go_guarded|(with_reducible refine wg ?_)|go_step|go_upon|go_quiet (fail))
                 rw [rounds_succ]
                 repeat' (first|go_values|go_skip|go_guarded|(with_reducible refine wg ?_)|go_step|go_upon|go_quiet (fail))
                 all_goals first|(go_ret;exact gives_int HX.out.symm bel)|(exfalso;omega)
               · repeat' (first|go_values|go_skip|go_guarded|(with_reducible refine wg ?_)|go_step|go_upon|go_quiet (fail))
                 refine wp_loop_rounds 4 ?_
                 rw [rounds_succ]
                 repeat' (first|go_values|go_skip|go_guarded|(with_reducible refine wg ?_)|go_step|go_upon|go_quiet (fail))
                 rw [rounds_succ]
                 repeat' (first|go_values|go_skip|go_guarded|(with_reducible refine wg ?_)|go_step|go_upon|go_quiet (fail))
                 all_goals first|(go_ret;exact gives_int HX.out.symm bel)|(exfalso;omega)
             · repeat' (first|go_values|go_skip|go_guarded|(with_reducible refine wg ?_)|go_step|go_upon|go_quiet (fail))
               refine wp_loop_rounds 4 ?_
               rw [rounds_succ]
               repeat' (first|go_values|go_skip|go_guarded|(with_reducible refine wg ?_)|go_step|go_upon|go_quiet (fail))
               all_goals first|(go_ret;exact gives_int HX.out.symm bel)|(exfalso;omega)
           · by_cases m1:Pl.g r 0<64
             · clear hm
               repeat' (first|go_values|go_skip|go_guarded|(with_reducible refine wg ?_)|go_step|go_upon|go_quiet (fail))
               go_ret
               exact gives_int HX.out.symm bel
             by_cases m2:1024<Pl.g r 0
             · clear hm
               repeat' (first|go_values|go_skip|go_guarded|(with_reducible refine wg ?_)|go_step|go_upon|go_quiet (fail))
               go_ret
               exact gives_int HX.out.symm bel
             have m3:¬ Pl.g r 0 % 4=0:=fun h=> hm ⟨by omega,by omega,h⟩
             have m4:64≤Pl.g r 0:=by omega
             have m5:Pl.g r 0≤1024:=by omega
             clear hm
             repeat' (first|go_values|go_skip|go_guarded|(with_reducible refine wg ?_)|go_step|go_upon|go_quiet (fail))
             go_ret
             exact gives_int HX.out.symm bel
       · have HB:=hU (seek_end hlt HS.out)
         have hB:=hbs
         clear HS
         by_cases f1:1≤fr∧fr≤4096
         · obtain ⟨f1,f2⟩:=f1
           repeat' (first|go_values|go_skip|go_guarded|(with_reducible refine wg ?_)|go_step|go_upon|go_quiet (fail))
           clear hk hlt hbs ha0 ha1 ha2 ha3 ha4
           go_loopw [8] (fun v wr=> WinsLoop w fr (.slice a1 ps.length c1) (.slice a2 ws.length c2) (.slice a3 cs.length c3) ps.length ws v wr) (fun v _=> ws.length - (intOf v).toNat)
           case atStart=> exact ⟨0,Nat.zero_le _,rfl,HON.out.below bel,by rw [List.drop_zero]⟩
           case round=>
            clear HON HBl hB
            obtain ⟨k,hk,rfl,hon,hwe⟩:=hrel
            have HON:=hU hon
            have HBl:=hU hon.bel
            obtain ⟨hbs,⟨ha0,ha1,ha2,ha3,ha4⟩⟩:=hon
            by_cases hlt:k<ws.length
            · obtain ⟨a',c',hav,hn',hnil|⟨b,off,rfl,hbl,hcell⟩⟩:=HW.out
              · rw [hnil] at hlt;exact absurd hlt (Nat.not_lt_zero _)
              obtain ⟨u,hu,hrow⟩:=hcell k hlt
              cases hav
              have HROW:=hU hrow
              obtain ⟨a3',c3',rfl,hn3,_⟩:=hrow
              have HU:=hU hu
              have c0:=(HBl.out.cell (p:=⟨b,off + k,none⟩) hbl).trans hu
              have HSTEP:=hU (fun h=> (hwe.trans (Plan.winsE_step hlt h):Pl.winsE ps.length fr ws=_))
              have HSTOP:=hU (fun h=> (hwe.trans (Plan.winsE_stop hlt h):Pl.winsE ps.length fr ws=_))
              clear hcell hu hwe
              generalize ws.getD k []=row at *
              repeat' (first|go_values|go_skip|go_guarded|(with_reducible refine wg ?_)|go_step|go_upon|go_quiet (fail))
              obtain ⟨wo,rfl⟩:∃ wo:World,wo=wr:=⟨_,rfl⟩
              clear hbs ha0 ha1 ha2 ha3 ha4 c0
              go_loopw [9] (fun v wi=> RowLoop w fr (.slice a1 ps.length c1) (.slice (some ⟨b,off,none⟩) ws.length c2) (.slice a3 cs.length c3) ps.length row v wi) (fun v _=> row.length - (intOf v).toNat)
              case atStart=> exact ⟨0,0,Nat.zero_le _,rfl,(fun _=> rfl),(fun h=> absurd rfl h),Int.le_refl _,by omega,HON.out.below bel,by rw [List.drop_zero]⟩
              case round=>
               obtain ⟨j,bh,hj,rfl,hj0,hj1,hb0,hbf,hon,hre⟩:=hrel
               clear HON HBl
               have HPI:=hU hon
               have HBI:=hU hon.bel
               obtain ⟨hbs,⟨ha0,ha1,ha2,ha3,ha4⟩⟩:=hon
               have c0:=(HBI.out.cell (p:=⟨b,off + k,none⟩) hbl).trans HU.out
               by_cases hjl:j<row.length
               · obtain ⟨a4,c4,hav,hn4,hnil|⟨b3,off3,rfl,hbl3,hcell3⟩⟩:=HROW.out
                 · rw [hnil] at hjl;exact absurd hjl (Nat.not_lt_zero _)
                 cases hav
                 have at_:=fun i hi=> (HBI.out.cell (p:=⟨b3,off3 + j * 3 + i,none⟩) hbl3).trans (hcell3 j i hjl hi)
                 have d0:=at_ 0 (by omega)
                 have d1:=at_ 1 (by omega)
                 have d2:=at_ 2 (by omega)
                 rw [Nat.add_zero] at d0
                 have HNEXT:=hU (fun h=> (hre.trans (Plan.rowE_step hjl h):Pl.rowE ps.length fr row 0=_))
                 have HHALT:=hU (fun h=> (hre.trans (Plan.rowE_stop hjl h):Pl.rowE ps.length fr row 0=_))
                 obtain ⟨r,hrd⟩:∃ r,row.getD j []=r:=⟨_,rfl⟩
                 have HD:=hU hrd
                 rw [hrd] at d0 d1 d2 HNEXT HHALT
                 clear at_ hre hrd
                 by_cases x0:Pl.g r 0<0
                 · as_aux_lemma=>
                   have hwv:Pl.winE ps.length fr r bh=1:=by unfold Pl.winE;rw [if_pos (by omega)]
                   have hans:Pl.check ⟨ps,fr,ws,cs⟩=1:=by
                    have t1:=HHALT.out (by rw [hwv];decide)
                    have t2:=HSTOP.out (by rw [t1,hwv];decide)
                    rw [Plan.check_mid h4 h3 h6 HA.out P0.out W0.out HB.out f1 f2,t2,t1,hwv]
                    rfl
                   have HX:=hU hans
                   clear hans hwv HHALT HNEXT HSTEP HSTOP
                   repeat' (first|go_values|go_skip|go_guarded|(with_reducible refine wg ?_)|go_step|go_upon|go_quiet (fail))
                   go_ret
                   have hB:=HBI.out
                   exact gives_int HX.out.symm bel
                 by_cases x1:(ps.length:Int)≤Pl.g r 0
                 · as_aux_lemma=>
                   have hwv:Pl.winE ps.length fr r bh=1:=by unfold Pl.winE;rw [if_pos (by omega)]
                   have hans:Pl.check ⟨ps,fr,ws,cs⟩=1:=by
                    have t1:=HHALT.out (by rw [hwv];decide)
                    have t2:=HSTOP.out (by rw [t1,hwv];decide)
                    rw [Plan.check_mid h4 h3 h6 HA.out P0.out W0.out HB.out f1 f2,t2,t1,hwv]
                    rfl
                   have HX:=hU hans
                   clear hans hwv HHALT HNEXT HSTEP HSTOP
                   repeat' (first|go_values|go_skip|go_guarded|(with_reducible refine wg ?_)|go_step|go_upon|go_quiet (fail))
                   go_ret
                   have hB:=HBI.out
                   exact gives_int HX.out.symm bel
                 by_cases x2:Pl.g r 1<0
                 · as_aux_lemma=>
                   have hwv:Pl.winE ps.length fr r bh=1:=by unfold Pl.winE;rw [if_pos (by omega)]
                   have hans:Pl.check ⟨ps,fr,ws,cs⟩=1:=by
                    have t1:=HHALT.out (by rw [hwv];decide)
                    have t2:=HSTOP.out (by rw [t1,hwv];decide)
                    rw [Plan.check_mid h4 h3 h6 HA.out P0.out W0.out HB.out f1 f2,t2,t1,hwv]
                    rfl
                   have HX:=hU hans
                   clear hans hwv HHALT HNEXT HSTEP HSTOP
                   repeat' (first|go_values|go_skip|go_guarded|(with_reducible refine wg ?_)|go_step|go_upon|go_quiet (fail))
                   go_ret
                   have hB:=HBI.out
                   exact gives_int HX.out.symm bel
                 by_cases x3:fr<Pl.g r 1
                 · as_aux_lemma=>
                   have hwv:Pl.winE ps.length fr r bh=1:=by unfold Pl.winE;rw [if_pos (by omega)]
                   have hans:Pl.check ⟨ps,fr,ws,cs⟩=1:=by
                    have t1:=HHALT.out (by rw [hwv];decide)
                    have t2:=HSTOP.out (by rw [t1,hwv];decide)
                    rw [Plan.check_mid h4 h3 h6 HA.out P0.out W0.out HB.out f1 f2,t2,t1,hwv]
                    rfl
                   have HX:=hU hans
                   clear hans hwv HHALT HNEXT HSTEP HSTOP
                   repeat' (first|go_values|go_skip|go_guarded|(with_reducible refine wg ?_)|go_step|go_upon|go_quiet (fail))
                   go_ret
                   have hB:=HBI.out
                   exact gives_int HX.out.symm bel
                 by_cases x4:Pl.g r 2<3
                 · as_aux_lemma=>
                   have hwv:Pl.winE ps.length fr r bh=1:=by unfold Pl.winE;rw [if_pos (by omega)]
                   have hans:Pl.check ⟨ps,fr,ws,cs⟩=1:=by
                    have t1:=HHALT.out (by rw [hwv];decide)
                    have t2:=HSTOP.out (by rw [t1,hwv];decide)
                    rw [Plan.check_mid h4 h3 h6 HA.out P0.out W0.out HB.out f1 f2,t2,t1,hwv]
                    rfl
                   have HX:=hU hans
                   clear hans hwv HHALT HNEXT HSTEP HSTOP
                   repeat' (first|go_values|go_skip|go_guarded|(with_reducible refine wg ?_)|go_step|go_upon|go_quiet (fail))
                   go_ret
                   have hB:=HBI.out
                   exact gives_int HX.out.symm bel
                 by_cases x5:fr - Pl.g r 1<Pl.g r 2
                 · as_aux_lemma=>
                   have hwv:Pl.winE ps.length fr r bh=1:=by unfold Pl.winE;rw [if_pos (by omega)]
                   have y1: -9223372036854775808≤fr - Pl.g r 1:=by omega
                   have y2:fr - Pl.g r 1≤9223372036854775807:=by omega
                   have hans:Pl.check ⟨ps,fr,ws,cs⟩=1:=by
                    have t1:=HHALT.out (by rw [hwv];decide)
                    have t2:=HSTOP.out (by rw [t1,hwv];decide)
                    rw [Plan.check_mid h4 h3 h6 HA.out P0.out W0.out HB.out f1 f2,t2,t1,hwv]
                    rfl
                   have HX:=hU hans
                   clear hans hwv HHALT HNEXT HSTEP HSTOP
                   repeat' (first|go_values|go_skip|go_guarded|(with_reducible refine wg ?_)|go_step|go_upon|go_quiet (fail))
                   go_ret
                   have hB:=HBI.out
                   exact gives_int HX.out.symm bel
                 have y1: -9223372036854775808≤fr - Pl.g r 1:=by omega
                 have y2:fr - Pl.g r 1≤9223372036854775807:=by omega
                 rcases j with _|j
                 · as_aux_lemma=>
                   have hb00:bh=0:=hj0 rfl
                   have hwv:Pl.winE ps.length fr r bh=0:=by unfold Pl.winE;rw [if_neg (by omega),if_neg (by omega)]
                   have HX:=hU (HNEXT.out hwv)
                   simp only [Nat.zero_mul,Nat.add_zero] at d0 d1 d2
                   clear hwv HHALT HNEXT HSTEP HSTOP
                   repeat' (first|go_values|go_skip|go_guarded|(with_reducible refine wg ?_)|go_step|go_upon|go_quiet (fail))
                   exact ⟨⟨1,_,by omega,by go_num,(fun h=> absurd h (by decide)),(fun _=> by rw [HD.out]),by omega,by omega,HPI.out.below bel,HX.out⟩,by simp [intOf];omega⟩
                 · have ep:=fun i hi=> (HBI.out.cell (p:=⟨b3,off3 + j * 3 + i,none⟩) hbl3).trans (hcell3 j i (by omega) hi)
                   have e1:=ep 1 (by omega)
                   have e2:=ep 2 (by omega)
                   have hjp:=hj1 (by omega)
                   rw [Nat.add_sub_cancel] at hjp
                   clear ep
                   obtain ⟨J,hJ⟩:∃ J:Nat,j + 1=J:=⟨_,rfl⟩
                   rw [hJ] at d0 d1 d2 hjl HD HNEXT
                   rw [hJ]
                   have hJ0:(0:Int)<J:=by omega
                   have hJ5:0<J:=by omega
                   have hbw:b<wr.heap.size:=by omega
                   have hbw3:b3<wr.heap.size:=by omega
                   have hJ1:(J:Int) - 1=j:=by omega
                   have hJ2:(j:Int)<row.length:=by omega
                   have hJ3:(j:Int)≤9223372036854775807:=by omega
                   have hJ4:(0:Int)≤j:=by omega
                   have HD1:=hU hjp
                   obtain ⟨rp,hrp⟩:∃ rp,row.getD j []=rp:=⟨_,rfl⟩
                   rw [hrp] at e1 e2 hjp HD1
                   clear hrp
                   have hs1: -9223372036854775808≤Pl.g rp 1 + Pl.g rp 2:=by omega
                   have hs2:Pl.g rp 1 + Pl.g rp 2≤9223372036854775807:=by omega
                   by_cases x7:Pl.g r 1<Pl.g rp 1 + Pl.g rp 2
                   · as_aux_lemma=>
                     have hwv:Pl.winE ps.length fr r bh=9:=by unfold Pl.winE;rw [if_neg (by omega),if_pos (by omega)]
                     have hans:Pl.check ⟨ps,fr,ws,cs⟩=9:=by
                      have t1:=HHALT.out (by rw [hwv];decide)
                      have t2:=HSTOP.out (by rw [t1,hwv];decide)
                      rw [Plan.check_mid h4 h3 h6 HA.out P0.out W0.out HB.out f1 f2,t2,t1,hwv]
                      rfl
                     have HX:=hU hans
                     clear hans hwv HHALT HNEXT HSTEP HSTOP
                     repeat' (first|go_values|go_skip|go_guarded|(with_reducible refine wg ?_)|go_step|go_upon|go_quiet (fail))
                     go_ret
                     have hB:=HBI.out
                     exact gives_int HX.out.symm bel
                   · as_aux_lemma=>
                     have hwv:Pl.winE ps.length fr r bh=0:=by unfold Pl.winE;rw [if_neg (by omega),if_neg (by omega)]
                     have HX:=hU (HNEXT.out hwv)
                     clear hwv HHALT HNEXT HSTEP HSTOP
                     repeat' (first|go_values|go_skip|go_guarded|(with_reducible refine wg ?_)|go_step|go_upon|go_quiet (fail))
                     exact ⟨⟨J + 1,_,by omega,by go_num,(fun h=> absurd h (by omega)),(fun _=> by rw [Nat.add_sub_cancel,HD.out]),by omega,by omega,HPI.out.below bel,HX.out⟩,by simp [intOf];omega⟩
               · have HX:=hU (HSTEP.out (by rw [hre,List.drop_of_length_le (by omega)];rfl))
                 clear hre
                 repeat' (first|go_values|go_skip|go_guarded|(with_reducible refine wg ?_)|go_step|go_upon|go_quiet (fail))
                 exact ⟨⟨k + 1,by omega,by go_num,HPI.out.below bel,HX.out⟩,by simp [intOf];omega⟩
            · have hw0:Pl.winsE ps.length fr ws=0:=by rw [hwe,List.drop_of_length_le (by omega)];rfl
              have hans:=Plan.check_mid (cs:=cs) h4 h3 h6 HA.out P0.out W0.out HB.out f1 f2
              rw [if_neg (by rw [hw0];simp)] at hans
              have HANS:=hU hans
              clear hans hw0 hwe
              repeat' (first|go_values|go_skip|go_guarded|(with_reducible refine wg ?_)|go_step|go_upon|go_quiet (fail))
              clear hk hlt hbs ha0 ha1 ha2 ha3 ha4
              go_loopw [11] (fun v wr=> ChansAt w fr (.slice a1 ps.length c1) (.slice a2 ws.length c2) (.slice a3 cs.length c3) ps.length cs v wr) (fun v _=> cs.length - (intOf v).toNat)
              case atStart=> exact ⟨0,Nat.zero_le _,rfl,HON.out.below bel,by rw [List.drop_zero]⟩
              case round=>
               clear HON HBl
               obtain ⟨k,hk,rfl,hon,hany⟩:=hrel
               have HON:=hU hon
               have HS:=hU hany
               have hB:=hon.bel
               obtain ⟨hbs,⟨ha0,ha1,ha2,ha3,ha4⟩⟩:=hon
               clear hany
               by_cases hlt:k<cs.length
               · obtain ⟨a',c',hav,_,hnil|⟨b,off,rfl,hbl,hcell⟩⟩:=HC.out
                 · rw [hnil] at hlt;exact absurd hlt (Nat.not_lt_zero _)
                 cases hav
                 have at_:=fun i hi=> (hB.cell (p:=⟨b,off + k * 5 + i,none⟩) hbl).trans (hcell k i hlt hi)
                 have d0:=at_ 0 (by omega)
                 have d1:=at_ 1 (by omega)
                 have d2:=at_ 2 (by omega)
                 have d3:=at_ 3 (by omega)
                 have d4:=at_ 4 (by omega)
                 rw [Nat.add_zero] at d0
                 have HHIT:=hU (fun h=> seek_hit hlt (getD_some (d:=[]) hlt) HS.out h)
                 have HMISS:=hU (fun h=> seek_miss hlt (getD_some (d:=[]) hlt) HS.out h)
                 clear at_ hcell
                 generalize cs.getD k []=r at *
                 by_cases hcb:Pl.chanB ps.length r=true
                 · as_aux_lemma=>
                   obtain ⟨q0,q1,q2,q3,q4,q5,q6,q7,q8,q9,q10⟩:=Pl.chan_facts hcb
                   have HX:=hU (HMISS.out (by rw [hcb];rfl))
                   have q12:(Pl.g r 1==Pl.g r 2)=false:=by simpa using q5
                   clear hcb HHIT HMISS
                   rcases q0 with q0|q0
                   · have q11:=q10 q0
                     clear q10
                     repeat' (first|go_values|go_skip|go_guarded|(with_reducible refine wg ?_)|go_step|go_upon|go_quiet (fail))
                     exact ⟨⟨k + 1,by omega,by go_num,HON.out.below bel,HX.out⟩,by simp [intOf];omega⟩
                   · clear q10
                     repeat' (first|go_values|go_skip|go_guarded|(with_reducible refine wg ?_)|go_step|go_upon|go_quiet (fail))
                     exact ⟨⟨k + 1,by omega,by go_num,HON.out.below bel,HX.out⟩,by simp [intOf];omega⟩
                 · have HX:=hU (HANS.out.trans (if_pos (HHIT.out (by simp [hcb]))))
                   clear HHIT HMISS
                   by_cases x:Pl.g r 0=1
                   · by_cases x0:Pl.g r 1<0
                     · as_aux_lemma=>
                       clear hcb
                       repeat' (first|go_values|go_skip|go_guarded|(with_reducible refine wg ?_)|go_step|go_upon|go_quiet (fail))
                       go_ret
                       exact gives_int HX.out.symm bel
                     by_cases x1:(ps.length:Int)≤Pl.g r 1
                     · as_aux_lemma=>
                       clear hcb
                       repeat' (first|go_values|go_skip|go_guarded|(with_reducible refine wg ?_)|go_step|go_upon|go_quiet (fail))
                       go_ret
                       exact gives_int HX.out.symm bel
                     by_cases x2:Pl.g r 2<0
                     · as_aux_lemma=>
                       clear hcb
                       repeat' (first|go_values|go_skip|go_guarded|(with_reducible refine wg ?_)|go_step|go_upon|go_quiet (fail))
                       go_ret
                       exact gives_int HX.out.symm bel
                     by_cases x3:(ps.length:Int)≤Pl.g r 2
                     · as_aux_lemma=>
                       clear hcb
                       repeat' (first|go_values|go_skip|go_guarded|(with_reducible refine wg ?_)|go_step|go_upon|go_quiet (fail))
                       go_ret
                       exact gives_int HX.out.symm bel
                     by_cases x4:Pl.g r 1=Pl.g r 2
                     · as_aux_lemma=>
                       have z1:(Pl.g r 1==Pl.g r 2)=true:=by simpa using x4
                       clear hcb
                       repeat' (first|go_values|go_skip|go_guarded|(with_reducible refine wg ?_)|go_step|go_upon|go_quiet (fail))
                       go_ret
                       exact gives_int HX.out.symm bel
                     have z2:(Pl.g r 1==Pl.g r 2)=false:=by simpa using x4
                     by_cases x5:Pl.g r 3<1
                     · as_aux_lemma=>
                       clear hcb
                       repeat' (first|go_values|go_skip|go_guarded|(with_reducible refine wg ?_)|go_step|go_upon|go_quiet (fail))
                       go_ret
                       exact gives_int HX.out.symm bel
                     by_cases x6:32<Pl.g r 3
                     · as_aux_lemma=>
                       clear hcb
                       repeat' (first|go_values|go_skip|go_guarded|(with_reducible refine wg ?_)|go_step|go_upon|go_quiet (fail))
                       go_ret
                       exact gives_int HX.out.symm bel
                     by_cases x7:Pl.g r 4<1
                     · as_aux_lemma=>
                       clear hcb
                       repeat' (first|go_values|go_skip|go_guarded|(with_reducible refine wg ?_)|go_step|go_upon|go_quiet (fail))
                       go_ret
                       exact gives_int HX.out.symm bel
                     by_cases x8:8<Pl.g r 4
                     · as_aux_lemma=>
                       clear hcb
                       repeat' (first|go_values|go_skip|go_guarded|(with_reducible refine wg ?_)|go_step|go_upon|go_quiet (fail))
                       go_ret
                       exact gives_int HX.out.symm bel
                     have x9:¬ Pl.g r 4=1:=fun h=> hcb (by unfold Pl.chanB;rw [decide_eq_true_eq,if_pos x];omega)
                     clear hcb
                     repeat' (first|go_values|go_skip|go_guarded|(with_reducible refine wg ?_)|go_step|go_upon|go_quiet (fail))
                     go_ret
                     exact gives_int HX.out.symm bel
                   by_cases y:Pl.g r 0=2
                   · by_cases x0:Pl.g r 1<0
                     · as_aux_lemma=>
                       clear hcb
                       repeat' (first|go_values|go_skip|go_guarded|(with_reducible refine wg ?_)|go_step|go_upon|go_quiet (fail))
                       go_ret
                       exact gives_int HX.out.symm bel
                     by_cases x1:(ps.length:Int)≤Pl.g r 1
                     · as_aux_lemma=>
                       clear hcb
                       repeat' (first|go_values|go_skip|go_guarded|(with_reducible refine wg ?_)|go_step|go_upon|go_quiet (fail))
                       go_ret
                       exact gives_int HX.out.symm bel
                     by_cases x2:Pl.g r 2<0
                     · as_aux_lemma=>
                       clear hcb
                       repeat' (first|go_values|go_skip|go_guarded|(with_reducible refine wg ?_)|go_step|go_upon|go_quiet (fail))
                       go_ret
                       exact gives_int HX.out.symm bel
                     by_cases x3:(ps.length:Int)≤Pl.g r 2
                     · as_aux_lemma=>
                       clear hcb
                       repeat' (first|go_values|go_skip|go_guarded|(with_reducible refine wg ?_)|go_step|go_upon|go_quiet (fail))
                       go_ret
                       exact gives_int HX.out.symm bel
                     by_cases x4:Pl.g r 1=Pl.g r 2
                     · as_aux_lemma=>
                       have z1:(Pl.g r 1==Pl.g r 2)=true:=by simpa using x4
                       clear hcb
                       repeat' (first|go_values|go_skip|go_guarded|(with_reducible refine wg ?_)|go_step|go_upon|go_quiet (fail))
                       go_ret
                       exact gives_int HX.out.symm bel
                     have z2:(Pl.g r 1==Pl.g r 2)=false:=by simpa using x4
                     by_cases x5:Pl.g r 3<1
                     · as_aux_lemma=>
                       clear hcb
                       repeat' (first|go_values|go_skip|go_guarded|(with_reducible refine wg ?_)|go_step|go_upon|go_quiet (fail))
                       go_ret
                       exact gives_int HX.out.symm bel
                     by_cases x6:32<Pl.g r 3
                     · as_aux_lemma=>
                       clear hcb
                       repeat' (first|go_values|go_skip|go_guarded|(with_reducible refine wg ?_)|go_step|go_upon|go_quiet (fail))
                       go_ret
                       exact gives_int HX.out.symm bel
                     by_cases x7:Pl.g r 4<1
                     · as_aux_lemma=>
                       clear hcb
                       repeat' (first|go_values|go_skip|go_guarded|(with_reducible refine wg ?_)|go_step|go_upon|go_quiet (fail))
                       go_ret
                       exact gives_int HX.out.symm bel
                     by_cases x8:8<Pl.g r 4
                     · as_aux_lemma=>
                       clear hcb
                       repeat' (first|go_values|go_skip|go_guarded|(with_reducible refine wg ?_)|go_step|go_upon|go_quiet (fail))
                       go_ret
                       exact gives_int HX.out.symm bel
                     exact absurd (show Pl.chanB ps.length r=true by unfold Pl.chanB;rw [decide_eq_true_eq,if_neg (by omega)];omega) hcb
                   clear hcb
                   repeat' (first|go_values|go_skip|go_guarded|(with_reducible refine wg ?_)|go_step|go_upon|go_quiet (fail))
                   go_ret
                   exact gives_int HX.out.symm bel
               · as_aux_lemma=>
                 have HX:=hU (HANS.out.trans (if_neg (by rw [seek_end hlt HS.out];decide)))
                 clear HS
                 repeat' (first|go_values|go_skip|go_guarded|(with_reducible refine wg ?_)|go_step|go_upon|go_quiet (fail))
                 go_ret
                 exact gives_int HX.out.symm bel
         · have HX:=hU (check_bad (cs:=cs) (fr:=fr) h4 h3 h6 HA.out (.inr (show fr<1∨4096<fr by omega)))
           repeat' (first|go_values|go_skip|go_guarded|(with_reducible refine wg ?_)|go_step|go_upon|go_quiet (fail))
           all_goals first|(go_ret;exact gives_int HX.out.symm bel)|(exfalso;omega)
    · as_aux_lemma=>
      have HBIG:=hU (check_big (ps:=ps) (cs:=cs) (fr:=fr) (.inr (.inr (.inr hany.symm))))
      clear hany
      repeat' (first|go_values|go_skip|go_guarded|(with_reducible refine wg ?_)|go_step|go_upon|go_quiet (fail))
      go_ret
      have hB:=HBl.out
      exact gives_int HBIG.out.symm bel
end RfP
end Go.Proofs.YthgehdghihbiaaaGreatDoor
