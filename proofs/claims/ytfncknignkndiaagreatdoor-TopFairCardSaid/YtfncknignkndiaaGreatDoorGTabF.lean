/- Loads and stores of structs within a fence; what a round of a loop over a function keeps. Conditions: as told. -/
import Derived.RangeFuncNested
import Derived.RangeFuncBound
import Derived.RangeFuncCalls
import Derived.RangeFuncLeaves
import Derived.Shelf.RegionOpen
import Derived.OwnWalkIn
import Derived.TacticsInMore
import Derived.LoopNIn
import Derived.LoopIn
import Derived.Test.YtfncknignkndiaaGreatDoorGTurn
set_option linter.unusedVariables false
set_option maxRecDepth 100000
set_option maxHeartbeats 8000000
set_option linter.unusedSimpArgs false
namespace Go.Proofs.YtfncknignkndiaaGreatDoor
open Tryz
open Go.RowKit
namespace KR
section
variable {F:Fence} {n:Nat} {P:Program} {ops:Array Oper} {rest:List Oper} {o:Oper} {a:Act} {Q:Exit→Act→World→Prop} {W:World}
theorem oJ (hw:Region.wanted o (yielded ops a.tmps)=true) {t:TypeId} {x:Operand} (hop:o.op=.load t x) {ad:Addr} {v:Value} (hx:a.eval x=.pointer (some ad)) (hr:(Instr.loadAt t (.pointer (some ad))).run P W=.ok v W) (hK:wpListIn F n P ops Q rest (a.put o.dst v) W):
 wpListIn F n P ops Q (o::rest) a W:=wpListIn_step fun K hk=> by
 rw [if_pos hw];refine ⟨fun f hf=> ?_,?_⟩
 · simp [Oper.about,hop] at hf
 · rw [Oper.semAt_eq _ _ _ (by simp [hop])];unfold execOp;simp only [hop,hx,Sem.run_bind,hr,Result.andThen_ok,Sem.run_pure];exact hk _ _ hK
theorem cC (hg:o.guard=none) {t T:TypeId} {x y:Operand} (hop:o.op=.store t x y) {m g off:Nat} {v:Value} {cur new:Array Value} (hx:a.eval x=.pointer (some ⟨g,off,none⟩)) (hy:a.eval y=v)
 (ht:∀ W,(sizeOf t).run P W=.ok m W) (hh:W.heap[g]? =some (.cells cur T (0,0))) (hn:v.cells.size=m) (hfit:off + m≤cur.size) (h1:∀ u ∈ v.cells.toList,u.oneCell'=true) (hnw:aQ cur off v.cells=new)
 (hK:∀ W',Put g new T W W'→wpListIn F n P ops Q rest (a.put o.dst undef) W'):wpListIn F n P ops Q (o::rest) a W:=wpListIn_plain hg fun K hk=> by
 refine ⟨fun f hf=> ?_,?_⟩
 · simp [Oper.about,hop] at hf
 · rw [Oper.semAt_eq _ _ _ (by simp [hop])];unfold execOp;simp only [hop,hx,hy,Sem.run_bind,run_store ht hn hh hfit h1 hnw,Result.andThen_ok,Sem.run_pure];exact hk _ _ (hK _ (nV hh))
end
def dV (K:Nat→Prop) (W W':World):Prop:=W.heap.size≤W'.heap.size∧∀ k c T,K k→W.heap[k]? =some (.cells c T (0,0))→W'.heap[k]? =some (.cells c T (0,0))
theorem iR {K:Nat→Prop} {A B C:World} (h:dV K A B) (k:dV K B C):dV K A C:=⟨Nat.le_trans h.1 k.1,fun i c T hi hc=> k.2 i c T hi (h.2 i c T hi hc)⟩
theorem xF {K:Nat→Prop} (W:World) (l:Nat) (o o':Obj) (hl:W.heap[l]? =some o) (ho:o.isCells=false):dV K W (W.putObj l o'):=
 ⟨by simp,fun k c T _ hc=> by
   by_cases e:k=l
   · subst e;rw [hl] at hc;cases hc;cases ho
   · exact (World.putObj_heap_other e).trans hc⟩
theorem dV.refl (K:Nat→Prop) (W:World):dV K W W:=⟨Nat.le_refl _,fun _ _ _ _ h=> h⟩
theorem dV.gI {K:Nat→Prop} {W W':World} (h:Below W.heap.size W W'):dV K W W':=⟨h.size,fun k c T _ hc=> (h.block k (hlt hc)).trans hc⟩
theorem dV.put {K:Nat→Prop} {W W':World} {g:Nat} {cs:Array Value} {T:TypeId} (h:Put g cs T W W') (hg:¬ K g):dV K W W':=
 ⟨Nat.le_of_eq h.size.symm,fun k c T hk hc=> (h.oth k (fun e=> hg (e ▸ hk))).trans hc⟩
theorem iQ {β:Type} {B:Nat} {J:β→World→Prop} (hJ:AbidesFrom B J) {s:β} {W W':World} (h:J s W) (hb:Below W.heap.size W W'):J s W':=
 hJ s W W' none h ⟨hb.os,hb.tape,hb.output,hb.size,fun k hk _=> hb.block k hk⟩ (fun r e=> by cases e)
end KR
end Go.Proofs.YtfncknignkndiaaGreatDoor
namespace Go.Proofs.YtfncknignkndiaaGreatDoor
open Tryz
open Go.RowKit KR
attribute [local go_sem] Oper.semAt_some
namespace Kn
def kids (l:List Proc) (pid:Int):List Proc:=l.filter (fun p=> p.par==pid)
theorem qPj {l:List Proc} {pid:Int} {k:Nat} {x:Proc} (hx:l[k]? =some x) (h:x.par=pid):kids (l.take (k + 1)) pid=kids (l.take k) pid ++ [x]:=by
 rw [(cD hx).1];simp [kids,h]
theorem qLy {l:List Proc} {pid:Int} {k:Nat} {x:Proc} (hx:l[k]? =some x) (h:¬ x.par=pid):kids (l.take (k + 1)) pid=kids (l.take k) pid:=by
 rw [(cD hx).1];simp [kids,h]
theorem qDw (l n:Nat) (Bl Bp:Nat) (K:Nat→Prop) (v:Value) (ps:List Proc) (pid:Int) (J Jx:List Proc→World→Prop) (W:World)
 (hY:∀ pre x W1,J pre W1→pre.length<ps.length→YieldAt Fence.wide (n - 1) prog l #[.agg x.cells] W1 fun e W'=> (e=.returned (.bool true)∧J (pre ++ [x]) W'∧dV K W1 W')∨(e=.returned (.bool false)∧Jx (pre ++ [x]) W'))
 (hJ:AbidesFrom W.heap.size J) (hcl:W.heap[Bl]? =some (.cells #[v] 26 (0,0))) (hcp:W.heap[Bp]? =some (.cells #[.int .i64 pid] 3 (0,0))) (hS:SlP W v ps) (hKp:K Bp) (hSt:∀ W',dV K W W'→SlP W' v ps) (h0:J [] W):
 CallsIn Fence.wide n prog 235 #[.func (.yield l) #[] #[],.pointer (some ⟨Bl,0,none⟩),.pointer (some ⟨Bp,0,none⟩)] W fun e W'=> (∃ v,e=.returned v)∧
  ((∃ ys,ys=kids ps pid∧J ys W')∨(∃ pre,pre <+:kids ps pid∧Jx pre W')):=by
 obtain ⟨a,c,rfl,hnc,hcm⟩:=hS.shape;have HST:=hU hSt;clear hSt;have k0:W.cell? ⟨Bl,0,none⟩=some (.slice a ps.length c):=aC hcl 0;have HCP:=hU hcp;have HS:=hU hS;clear hcl hcp hS;refine callsIn_of_wp func235 rfl trivial ?_ rfl;simp only [ntmps235,List.size_toArray,List.length_cons,List.length_nil,Nat.reduceAdd,Nat.reduceSub,Array.replicate_succ,Array.replicate_zero,List.push_toArray,List.append_toArray,List.nil_append,List.cons_append];gi_wp2
 gi_loopw [8] (fun iv wr=> ∃ k:Nat,k≤ps.length∧iv=.int .i64 k∧J (kids (ps.take k) pid) wr∧dV K W wr) (fun iv _=> ps.length - (intOf iv).toNat)
 case atStart=> exact ⟨0,Nat.zero_le _,rfl,h0,dV.refl _ _⟩
 case round=>
  obtain ⟨k,hk,rfl,hJs,hKw⟩:=hrel;have HSr:Hid (SlP wr (.slice a ps.length c) ps):=hU (HST.out wr hKw);have HPr:=hU (hKw.2 _ _ _ hKp HCP.out);have hBp:=hlt HPr.out;have HKW:=hU hKw;clear hKw;by_cases hlt':k<ps.length
  · obtain ⟨x,hx⟩:∃ x,ps[k]? =some x:=⟨_,List.getElem?_eq_getElem hlt'⟩
    obtain ⟨_,_,_,hel⟩:=HSr.out.elem;obtain ⟨b,off,rfl,hbl,hcell'⟩:=hel k x hx;have HCELL:=hU (hcell' wr (Below.refl _ _));have HX1:=hU (dK x);have HXS:Hid (x.cells.size=26):=hU rfl;have h1:x.cells[1]? =some (.int .i64 x.par):=rfl;have HYES:=hU (@qPj ps pid k x hx);have HNO:=hU (@qLy ps pid k x hx);have HY:=hU (fun W1 hj hl=> hY (kids (ps.take k) pid) x W1 hj hl);have HJ:=hU hJ;have HJS:=hU hJs
    have hlen:(kids (ps.take k) pid).length<ps.length:=by
     have h1:=List.length_filter_le (fun p:Proc=> p.par==pid) (ps.take k);rw [List.length_take] at h1;unfold kids;omega
    have HLEN:=hU hlen;clear hcell' hel hx hY hJ hJs hlen;generalize x.cells=xc at *;by_cases hpar:x.par=pid
    · gi_wp2_with (first
       |(refine oJ (t:=121) (by rfl) rfl rfl (cA aL HXS.out HCELL.out) ?_)
       |(refine cC (t:=121) (v:=.agg xc) rfl rfl rfl rfl aL.size (fZ wr _) HXS.out (by simp) HX1.out (eD (by rw [show (Value.agg xc).cells.size=26 from HXS.out];rfl)) ?_
         intro W2 hp2;have hb2:Below wr.heap.size wr W2:=Below.put ((Below.refl wr.heap.size wr).alloc (Nat.le_refl _) _) hp2 (Nat.le_refl _);have HB2:=hU hb2;have HX2:=hU hp2.at_;have c1:=(aC hp2.at_ 1).trans h1;have c2:W2.cell? ⟨Bp,0,none⟩=some (.int .i64 pid):=aC ((hb2.block Bp hBp).trans HPr.out) 0;have HJ2:=hU (iQ HJ.out HJS.out hb2);have HK2:=hU (iR HKW.out (dV.gI hb2));obtain ⟨fn,tmps,assign,body,hy,hR⟩:=HY.out W2 HJ2.out HLEN.out;clear hp2 hb2)
       |(refine oJ (t:=121) (by rfl) rfl rfl (aD aL HX2.out HXS.out) ?_))
      refine ⟨fun h=> by simp [Fence.wide] at h,hR.mono ?_⟩;rintro e W3 (⟨rfl,hJ3,hk3⟩|⟨rfl,hJx3⟩)
      · have HJ3:=hU hJ3;have HK3:=hU (iR HK2.out hk3);clear hJ3 hk3 hy;gi_wp2
        go_roundw
        case rel=> exact ⟨k + 1,by omega,by go_num,by rw [HYES.out hpar];exact HJ3.out,HK3.out⟩
        case measure=> simp [intOf];omega
      · gi_wp2
        refine bodyPost_ret (results_none rfl _ _ _) rfl ?_;refine ⟨⟨_,rfl⟩,.inr ⟨kids (ps.take k) pid ++ [x],?_,hJx3⟩⟩;rw [← HYES.out hpar];exact List.IsPrefix.filter _ (List.take_prefix _ _)
    · gi_wp2_with (first
       |(refine oJ (t:=121) (by rfl) rfl rfl (cA aL HXS.out HCELL.out) ?_)
       |(refine cC (t:=121) (v:=.agg xc) rfl rfl rfl rfl aL.size (fZ wr _) HXS.out (by simp) HX1.out (eD (by rw [show (Value.agg xc).cells.size=26 from HXS.out];rfl)) ?_
         intro W2 hp2;have hb2:Below wr.heap.size wr W2:=Below.put ((Below.refl wr.heap.size wr).alloc (Nat.le_refl _) _) hp2 (Nat.le_refl _);have HB2:=hU hb2;have HX2:=hU hp2.at_;have c1:=(aC hp2.at_ 1).trans h1;have c2:W2.cell? ⟨Bp,0,none⟩=some (.int .i64 pid):=aC ((hb2.block Bp hBp).trans HPr.out) 0;have HJ2:=hU (iQ HJ.out HJS.out hb2);have HK2:=hU (iR HKW.out (dV.gI hb2));skip
         clear hp2 hb2))
      refine ⟨fun _ h=> (by cases h),?_⟩;gi_wp2
      go_roundw
      case rel=> exact ⟨k + 1,by omega,by go_num,by rw [HNO.out hpar];exact HJ2.out,HK2.out⟩
      case measure=> simp [intOf];omega
  · obtain rfl:k=ps.length:=by omega
    gi_wp2
    go_end0
    rw [List.take_length] at hJs;exact ⟨⟨_,rfl⟩,.inl ⟨_,rfl,hJs⟩⟩
theorem xV (n:Nat) (a:Option Addr) (m c:Nat) (pid:Int) (w:World):
 CallsIn Fence.wide n prog 229 #[.slice a m c,.int .i64 pid] w fun e w'=> e=.returned (.func (.func 235) #[] #[.pointer (some ⟨w.heap.size,0,none⟩),.pointer (some ⟨w.heap.size + 1,0,none⟩)])∧w'=(w.alloc (.cells #[.slice a m c] 26)).alloc (.cells #[.int .i64 pid] 3):=by
 refine callsIn_of_wp func229 rfl trivial ?_ rfl;simp only [ntmps229,List.size_toArray,List.length_cons,List.length_nil,Nat.reduceAdd,Nat.reduceSub,Array.replicate_succ,Array.replicate_zero,List.push_toArray,List.append_toArray,List.nil_append,List.cons_append];gi_wp2
 go_ret;exact ⟨rfl,rfl⟩
theorem qG (n:Nat) (K:Nat→Prop) (v:Value) (ps:List Proc) (pid:Int) (Bl Bp:Nat) (w:World) (hl:w.heap[Bl]? =some (.cells #[v] 26 (0,0))) (hp:w.heap[Bp]? =some (.cells #[.int .i64 pid] 3 (0,0))) (hS:SlP w v ps) (hKp:K Bp) (hKs:∀ b c,w.heap[b]? =some (.cells c 121 (0,0))→K b):
 SeqStopsK Fence.wide n prog 235 #[.pointer (some ⟨Bl,0,none⟩),.pointer (some ⟨Bp,0,none⟩)] (fun x:Proc=> #[.agg x.cells]) (dV K) (fun ys=> ys=kids ps pid) (fun pre=> pre <+:kids ps pid) ps.length w:=fun l J Jx W hW hJ hJx hY h0=> by
 exact qDw l n Bl Bp K v ps pid J Jx W hY hJ ((hW.block Bl (hlt hl)).trans hl) ((hW.block Bp (hlt hp)).trans hp) (hS.below hW) hKp
  (fun W' hk=> hS.stay (fun b c hb=> (hk.2 b c _ (hKs b c hb) ((hW.block b (hlt hb)).trans hb)).trans hb.symm)) h0
end Kn
end Go.Proofs.YtfncknignkndiaaGreatDoor
namespace Go.Proofs.YtfncknignkndiaaGreatDoor
open Tryz
open Go.RowKit KR
attribute [local go_sem] Oper.semAt_some
namespace KR
theorem dR {β:Type} (B:Nat) (cs:β→Array Value) (T:TypeId):Go.Own (fun (s:β) (W:World)=> W.heap[B]? =some (.cells (cs s) T (0,0))):=fun s X Y row hs hg hrow=>
 (hg.block B (hlt hs) (fun e=> by obtain ⟨o,ho,hc⟩:=hrow B e.symm;rw [hs] at ho;cases ho;cases hc)).trans hs
theorem fJ {B:Nat} {W W':World} (h:Below W.heap.size W W'):KeepsFrom B W W':=⟨h.size,fun k o _ hk _=> (h.block k (Array.getElem?_eq_some_iff.1 hk).1).trans hk⟩
theorem gN {B g:Nat} {W W':World} {cs cur:Array Value} {T T2:TypeId} (hh:W.heap[g]? =some (.cells cur T2 (0,0))) (h:Put g cs T W W'):KeepsFrom B W W':=⟨Nat.le_of_eq h.size.symm,fun k o _ hk ho=> (h.oth k (fun e=> by subst e;rw [hh] at hk;cases hk;cases ho)).trans hk⟩
theorem qAc {P:Program} {fn:Func} {p q:Tmp} {ty ty2:TypeId} (h:fn.results=#[.cell p ty,.cell q ty2]) (ht:One P ty) (ht2:One P ty2) {tmps:Array Value} {W:World} {b b2:Nat} {v v2:Value} {T T2:TypeId} {fr fr2:Nat × Nat} (hp:tmps.getD p undef=.pointer (some ⟨b,0,none⟩)) (hq:tmps.getD q undef=.pointer (some ⟨b2,0,none⟩)) (hh:W.heap[b]? =some (.cells #[v] T fr)) (hh2:W.heap[b2]? =some (.cells #[v2] T2 fr2)):
 (results fn tmps).run P W=.ok (.tuple #[v,v2]) W:=by
 have hp':tmps[p]?.getD undef=.pointer (some ⟨b,0,none⟩):=by simpa using hp
 have hq':tmps[q]?.getD undef=.pointer (some ⟨b2,0,none⟩):=by simpa using hq
 have l1:=pJ (W:=W) ht (aC hh 0);have l2:=pJ (W:=W) ht2 (aC hh2 0);simp only [Instr.loadAt,Instr.sureAddr,Sem.run_bind,Sem.run_pure,Result.andThen_ok] at l1 l2;simp [results,h,hp',hq',asAddr,l1,l2]
end KR
namespace Kn
theorem qCn (l:List Proc) (pid:Int):dead l pid=(kids l pid).find? (fun p=> p.st==4):=by
 unfold dead kids;rw [List.find?_filter];congr 1
 funext p
 by_cases h1:p.par=pid <;> by_cases h2:p.st=4 <;> simp [h1,h2]
theorem qLl {l:List Proc} {pid:Int} (h:∀ x ∈ kids l pid,¬ x.st=4):dead l pid=none:=by
 rw [qCn,List.find?_eq_none];intro x hx;simpa using h x hx
theorem qLm {l p:List Proc} {x:Proc} {pid:Int} (h:p ++ [x] <+:kids l pid) (hno:∀ y ∈ p,¬ y.st=4) (hx:x.st=4):dead l pid=some x:=by
 obtain ⟨t,ht⟩:=h
 have h1:p.find? (fun p=> p.st==4)=none:=by
  rw [List.find?_eq_none];intro y hy;simpa using hno y hy
 rw [qCn,← ht,List.append_assoc,List.find?_append,h1];simp [hx]
theorem qQy (n:Nat) (hn:3≤n) (a:Option Addr) (c:Nat) (ps:List Proc) (pid:Int) (w:World) (hS:SlP w (.slice a ps.length c) ps):
 CallsIn Fence.wide n prog 211 #[.slice a ps.length c,.int .i64 pid] w (aN (.tuple #[.int .i64 (((dead ps pid).map (·.pid)).getD 0),.bool (dead ps pid).isSome]) w):=by
 have h1:1≤n:=by omega
 refine callsIn_of_wp_marks func211 rfl trivial ?_ rfl;simp only [ntmps211,List.size_toArray,List.length_cons,List.length_nil,Nat.reduceAdd,Nat.reduceSub,Array.replicate_succ,Array.replicate_zero,List.push_toArray,List.append_toArray,List.nil_append,List.cons_append];gi_wp2_with (refine ⟨trivial,?_⟩;gi_at_call 229;refine (xV (n - 1) _ _ _ _ _).mono ?_;rintro e w' ⟨rfl,rfl⟩)
 obtain ⟨q0,q1,q2,q3⟩:=uB w w.heap.size (.cells #[.int .i64 0] 3) (.cells #[.bool false] 4) (.cells #[.slice a ps.length c] 26) (.cells #[.int .i64 pid] 3) rfl;have hB0:Below w.heap.size w ((((w.alloc (.cells #[.int .i64 0] 3)).alloc (.cells #[.bool false] 4)).alloc (.cells #[.slice a ps.length c] 26)).alloc (.cells #[.int .i64 pid] 3)):=bel;have hsz:((((w.alloc (.cells #[.int .i64 0] 3)).alloc (.cells #[.bool false] 4)).alloc (.cells #[.slice a ps.length c] 26)).alloc (.cells #[.int .i64 pid] 3)).heap.size=w.heap.size + 4:=by simp
 obtain ⟨W0,hW0⟩:∃ W0,((((w.alloc (.cells #[.int .i64 0] 3)).alloc (.cells #[.bool false] 4)).alloc (.cells #[.slice a ps.length c] 26)).alloc (.cells #[.int .i64 pid] 3))=W0:=⟨_,rfl⟩
 rw [hW0] at q0 q1 q2 q3 hB0 hsz ⊢;clear hW0
 refine wpIn_rangeFunc_ownH rfl h1 (gf:=235) (lb:=#[.pointer (some ⟨w.heap.size + 1 + 1,0,none⟩),.pointer (some ⟨w.heap.size + 1 + 1 + 1,0,none⟩)]) rfl trivial (enters_of func235 (by kernel_rfl) rfl)
  (qG (n - 1) (fun k=> k ≠ w.heap.size∧k ≠ w.heap.size + 1) (.slice a ps.length c) ps pid (w.heap.size + 1 + 1) (w.heap.size + 1 + 1 + 1) W0 q2 q3 (hS.below hB0) ⟨by omega,by omega⟩
    (fun b cs hb=> ⟨eS hb q0 (by decide),eS hb q1 (by decide)⟩)) (fun h k=> iR h k) (fun W l o o' _ h ho _=> xF W l o o' h ho) (Below.refl _ _) (fun _=> rfl)
  (fun pre W=> ((W.heap[w.heap.size]? =some (.cells #[.int .i64 0] 3 (0,0))∧W.heap[w.heap.size + 1]? =some (.cells #[.bool false] 4 (0,0)))∧Below w.heap.size w W)∧∀ x ∈ pre,¬ x.st=4)
  (fun j pre W=> ((∃ (p:List Proc) (x:Proc),j=.ret∧pre=p ++ [x]∧x.st=4∧(∀ y ∈ p,¬ y.st=4)∧W.heap[w.heap.size]? =some (.cells #[.int .i64 x.pid] 3 (0,0)))∧W.heap[w.heap.size + 1]? =some (.cells #[.bool true] 4 (0,0)))∧Below w.heap.size w W)
  ?hI ?hIx ?h0
  (fun x a' W=> ∃ Bx,w.heap.size + 1<Bx∧W.heap[Bx]? =some (.cells x.cells 121 (0,0))∧a'={tmps:=#[.slice a ps.length c,.int .i64 pid,undef,undef,.pointer (some ⟨w.heap.size,0,none⟩),.pointer (some ⟨w.heap.size + 1,0,none⟩),.pointer (some ⟨Bx,0,none⟩),.slice a ps.length c,.int .i64 pid,.func (.func 235) #[] #[.pointer (some ⟨w.heap.size + 1 + 1,0,none⟩),.pointer (some ⟨w.heap.size + 1 + 1 + 1,0,none⟩)],.agg x.cells,undef,undef,undef,undef,undef],defers:=[]})
  ?hAx ?assign ?body ?done ?stop
 case hI=> exact OwnFrom.and (OwnFrom.and (OwnFrom.and (Go.Own.from (dR _ (fun _=> #[.int .i64 0]) _) _) (Go.Own.from (dR _ (fun _=> #[.bool false]) _) _)) (ownFrom_below (Nat.le_refl _) (by omega))) (fun _ _ _ _ h _ _=> h)
 case hIx=>
  intro j;refine OwnFrom.and (OwnFrom.and ?_ (Go.Own.from (dR _ (fun _=> #[.bool true]) _) _)) (ownFrom_below (Nat.le_refl _) (by omega));rintro s X Y row ⟨p,x,h1,h2,h3,h4,h5⟩ hg hr;exact ⟨p,x,h1,h2,h3,h4,dR w.heap.size (fun (_:Unit)=> #[.int .i64 x.pid]) _ () X Y row h5 hg (fun r e=> (hr r e).2)⟩
 case h0=> exact ⟨⟨⟨q0,q1⟩,hB0⟩,by simp⟩
 case hAx=>
  rintro x a' _ X Y row ⟨Bx,h1,h2,h3⟩ hg hr;exact ⟨Bx,h1,dR Bx (fun (_:Unit)=> x.cells) _ () X Y row h2 hg (fun r e=> (hr r e).2),h3⟩
 case assign=>
  rintro l pre x W K ⟨⟨⟨hc0,hc1⟩,hBW⟩,hno⟩ hK;have hx1:=dK x;have hz:=hBW.size;have h0:=hlt hc0;have h01:=hlt hc1;have HK:=hU hK;clear hK;gi_wp2_with (refine cC (t:=121) (v:=.agg x.cells) rfl rfl rfl rfl aL.size (fZ W _) rfl (by simp) hx1 (eD rfl) ?_;intro W2 hp2)
  have hb2:Below W.heap.size W W2:=Below.put ((Below.refl W.heap.size W).alloc (Nat.le_refl _) _) hp2 (Nat.le_refl _);exact HK.out _ _ (fJ hb2) (dV.gI hb2) ⟨⟨⟨(hb2.block _ h0).trans hc0,(hb2.block _ h01).trans hc1⟩,Below.to hBW hb2⟩,hno⟩ ⟨W.heap.size,h01,hp2.at_,rfl⟩
 case body=>
  rintro l pre x a' W hl ⟨r,hr⟩ ⟨⟨⟨hc0,hc1⟩,hBW⟩,hno⟩ ⟨Bx,hBx,hbx,rfl⟩ hlt;have c0:W.cell? ⟨Bx,0,none⟩=some (.int .i64 x.pid):=aC hbx 0;have c2:W.cell? ⟨Bx,2,none⟩=some (.int .i64 x.st):=aC hbx 2;have HC0:=hU hc0;have HC1:=hU hc1;have HBX:=hU hbx;have HBW:=hU hBW;have HNO:=hU hno;have hbne:Bx ≠ w.heap.size:=by omega
  clear hc0 hc1 hbx hno;by_cases hx:x.st=4
  · gi_wp2_with (first
     |(refine cC (t:=3) (v:=.int .i64 x.pid) (off:=0) (new:=#[.int .i64 x.pid]) rfl rfl rfl rfl cO.size HC0.out rfl (by simp) (gJ _) rfl ?_;intro W2 hp2;have HC02:=hU hp2.at_;have HC12:=hU ((hp2.oth (w.heap.size + 1) (by omega)).trans HC1.out);have HK2:=hU (gN (B:=W0.heap.size) HC0.out hp2);have HB2:=hU (Below.put HBW.out hp2 (Nat.le_refl _));clear hp2)
     |(refine cC (t:=4) (v:=.bool true) (off:=0) (new:=#[.bool true]) rfl rfl rfl rfl nR.size HC12.out rfl (by simp) (by intro u hu;simp [Value.cells] at hu;subst hu;rfl) rfl ?_;intro W3 hp3;have HC03:=hU ((hp3.oth w.heap.size (by omega)).trans HC02.out);have HC13:=hU hp3.at_;have HK3:=hU (gN (B:=W0.heap.size) HC12.out hp3);have HB3:=hU (Below.put HB2.out hp3 (by omega));clear hp3))
    exact ⟨HK2.out.trans HK3.out,⟨⟨⟨pre,x,rfl,rfl,hx,HNO.out,HC03.out⟩,HC13.out⟩,HB3.out⟩⟩
  · gi_wp2
    exact ⟨KeepsFrom.refl _ _,dV.refl _ _,⟨⟨⟨HC0.out,HC1.out⟩,HBW.out⟩,by
     intro y hy;rcases List.mem_append.1 hy with h|h
     · exact HNO.out y h
     · rw [List.mem_singleton.1 h];exact hx⟩⟩
 case done=>
  rintro D ys W hD rfl ⟨⟨⟨hc0,hc1⟩,hBW⟩,hno⟩ hK;have HC0:=hU hc0;have HC1:=hU hc1;have HKD:=hU hK;have HBW:=hU hBW;have hd:=qLl hno;clear hc0 hc1 hK
  gi_wp2_with (first
   |(refine cC (t:=3) (v:=.int .i64 0) (off:=0) (new:=#[.int .i64 0]) rfl rfl rfl rfl cO.size HC0.out rfl (by simp) (gJ _) rfl ?_;intro W2 hp2;have HC02:=hU hp2.at_;have HC12:=hU ((hp2.oth (w.heap.size + 1) (by omega)).trans HC1.out);have HK2:=hU ((hp2.oth D (by omega)).trans HKD.out);have HB2:=hU (Below.put HBW.out hp2 (Nat.le_refl _));clear hp2)
   |(refine cC (t:=4) (v:=.bool false) (off:=0) (new:=#[.bool false]) rfl rfl rfl rfl nR.size HC12.out rfl (by simp) (by intro u hu;simp [Value.cells] at hu;subst hu;rfl) rfl ?_;intro W3 hp3;have HC03:=hU ((hp3.oth w.heap.size (by omega)).trans HC02.out);have HC13:=hU hp3.at_;have HK3:=hU ((hp3.oth D (by omega)).trans HK2.out);have HB3:=hU (Below.put HB2.out hp3 (by omega));clear hp3))
  refine ⟨by simp,.inl ⟨_,_,rfl,run_takeDeferred HK3.out,?_⟩⟩;refine ⟨_,qAc results211 cO nR rfl rfl ((World.putObj_heap_other (by omega)).trans HC03.out) ((World.putObj_heap_other (by omega)).trans HC13.out),?_⟩;rw [hd];exact ⟨rfl,HB3.out.trans (belowK_b (w:=w) (Nat.le_refl _) W3 D _ _ (by omega) HK3.out rfl rfl)⟩
 case stop=>
  rintro D j pre W hD hpre ⟨⟨⟨p,x,rfl,rfl,hx,hno,hc0⟩,hc1⟩,hBW⟩ hK;have HC0:=hU hc0;have HC1:=hU hc1;have HKD:=hU hK;have hd:=qLm hpre hno hx;clear hc0 hc1 hK;gi_wp2
  refine ⟨by simp,.inl ⟨_,_,rfl,run_takeDeferred HKD.out,?_⟩⟩;refine ⟨_,qAc results211 cO nR rfl rfl ((World.putObj_heap_other (by omega)).trans HC0.out) ((World.putObj_heap_other (by omega)).trans HC1.out),?_⟩;rw [hd];exact ⟨rfl,hBW.trans (belowK_b (w:=w) (Nat.le_refl _) W D _ _ (by omega) HKD.out rfl rfl)⟩
theorem qUd (a:Option Addr) (c:Nat) (ps:List Proc) (pid:Int) (w:World) (hS:SlP w (.slice a ps.length c) ps):
 Calls prog 211 #[.slice a ps.length c,.int .i64 pid] w (aN (.tuple #[.int .i64 (((dead ps pid).map (·.pid)).getD 0),.bool (dead ps pid).isSome]) w):=
 (callsIn_wide (n:=3)).1 (qQy 3 (by omega) a c ps pid w hS)
theorem sM {F:Fence} {n:Nat} {P:Program} (w:World) {ops:Array Oper} {rest:List Oper} {o:Oper} {a:Act} {Q:Exit→Act→World→Prop}
 (hg:o.guard=none) (s x:Operand) (t u:TypeId) (hop:o.op=Op.call {callee:=Callee.builtin Builtin.append,args:=#[s,x],argTypes:=#[t,u]})
 (sv xv:Value) (hs:a.eval s=sv) (hx:a.eval x=xv) (v':Value) (w':World) (hrun:(Builtin.append_ #[t,u] o.type #[sv,xv]).run P w=.ok v' w') (hK:wpListIn F n P ops Q rest (a.put o.dst v') w'):
 wpListIn F n P ops Q (o::rest) a w:=wpListIn_plain hg fun K hk=> by
 refine ⟨fun f hf=> ?_,?_⟩
 · simp [Oper.about,hop,resolve,Target.leads,Result.andThen] at hf
 · rw [Oper.semAt_eq _ _ _ (by simp [hop])];unfold execOp;simp [hop,resolve,invoke,builtin,hs,hx,hrun,Result.andThen];exact hk _ _ hK
theorem uZ {E:TypeId} {sz B:Nat} {α:Type} {f:α→Array Value} {W:World} {v:Value} {l:List α} (h:KR.Own E sz f B W v l):v.cells=#[v]:=by
 rcases h.2 with ⟨rfl,_⟩|⟨g,cap,cur,rfl,_⟩ <;> rfl
theorem qTc {E:TypeId} {sz B:Nat} {α:Type} {f:α→Array Value} {W:World} {v:Value} {l:List α} (h:KR.Own E sz f B W v l):v.oneCell'=true:=by
 rcases h.2 with ⟨rfl,_⟩|⟨g,cap,cur,rfl,_⟩ <;> rfl
theorem qHj (v:Value) (l:List Int) (x:Int) (B xb:Nat) (w:World) (h:pX B w v l) (hB:B≤w.heap.size) (hx:w.heap[xb]? =some (.cells #[.int .i64 x] 3 (0,0))) (hn:l.length≤34359738368):
 ∃ v' W',(Builtin.append_ #[27,27] 27 #[v,.slice (some ⟨xb,0,none⟩) 1 1]).run prog w=.ok v' W'∧pX B W' v' (l ++ [x])∧w.grownBy W' v.ownBlock:=by
 have hi:(prog.info? 3).map (fun i=> (i.zero.map (·.cells.size),i.size,i.bytes))=some (some 1,1,8):=by kernel_rfl
 obtain ⟨i,z,hi0,hz,hzs,hs,hby⟩:=iK hi
 obtain ⟨v',W',hrun,hown',hgrow,_⟩:=run_append_own (P:=prog) w B 27 27 3 i z 1 8 underlying27 hi0 hz hs hby hzs (by decide) v l.length (flat dC l) h ⟨xb,0,none⟩ 1 1 (dC x).toList rfl
  (by intro j u hj;rw [oL,Nat.zero_add,aC hx];simpa [dC] using hj) (gJ x) (by unfold maxLen;omega) (by omega) hB
 refine ⟨v',W',hrun,?_,hgrow⟩;show W'.ownsRow _ _ _ _ _ _
 rw [eQ,List.length_append];simpa [flat] using hown'
theorem qFf (n:Nat) (hn:3≤n) (a:Option Addr) (c:Nat) (ps:List Proc) (pid:Int) (w:World) (hS:SlP w (.slice a ps.length c) ps) (hpl:ps.length≤1000000):
 CallsIn Fence.wide n prog 212 #[.slice a ps.length c,.int .i64 pid] w (fun e w'=> ∃ v',e=.returned v'∧SlI w' v' (children ps pid)∧Below w.heap.size w w'):=by
 have h1:1≤n:=by omega
 refine callsIn_of_wp_marks func212 rfl trivial ?_ rfl;simp only [ntmps212,List.size_toArray,List.length_cons,List.length_nil,Nat.reduceAdd,Nat.reduceSub,Array.replicate_succ,Array.replicate_zero,List.push_toArray,List.append_toArray,List.nil_append,List.cons_append];gi_wp2_with (refine ⟨trivial,?_⟩;gi_at_call 229;refine (xV (n - 1) _ _ _ _ _).mono ?_;rintro e w' ⟨rfl,rfl⟩)
 obtain ⟨q0,q1,q2⟩:=gG w w.heap.size (.cells #[.slice none 0 0] 27) (.cells #[.slice a ps.length c] 26) (.cells #[.int .i64 pid] 3) rfl;have hB0:Below w.heap.size w (((w.alloc (.cells #[.slice none 0 0] 27)).alloc (.cells #[.slice a ps.length c] 26)).alloc (.cells #[.int .i64 pid] 3)):=bel;have hsz:(((w.alloc (.cells #[.slice none 0 0] 27)).alloc (.cells #[.slice a ps.length c] 26)).alloc (.cells #[.int .i64 pid] 3)).heap.size=w.heap.size + 3:=by simp
 obtain ⟨W0,hW0⟩:∃ W0,(((w.alloc (.cells #[.slice none 0 0] 27)).alloc (.cells #[.slice a ps.length c] 26)).alloc (.cells #[.int .i64 pid] 3))=W0:=⟨_,rfl⟩
 rw [hW0] at q0 q1 q2 hB0 hsz ⊢;clear hW0
 refine wpIn_rangeFunc_ownH rfl h1 (gf:=235) (lb:=#[.pointer (some ⟨w.heap.size + 1,0,none⟩),.pointer (some ⟨w.heap.size + 1 + 1,0,none⟩)]) rfl trivial (enters_of func235 (by kernel_rfl) rfl)
  (qG (n - 1) (fun k=> k<W0.heap.size∧k ≠ w.heap.size) (.slice a ps.length c) ps pid (w.heap.size + 1) (w.heap.size + 1 + 1) W0 q1 q2 (hS.below hB0) ⟨by omega,by omega⟩
    (fun b cs hb=> ⟨hlt hb,eS hb q0 (by decide)⟩)) (fun h k=> iR h k) (fun W l o o' _ h ho _=> xF W l o o' h ho) (Below.refl _ _) (fun _=> rfl)
  (fun pre W=> (∃ v,Boxed W w.heap.size 27 v∧W.ownsRow W0.heap.size 3 1 v (pre.map (·.pid)).length (flat dC (pre.map (·.pid)))∧True)∧Below w.heap.size w W∧W0.heap.size≤W.heap.size)
  (fun _ _ _=> False)
  ?hI (fun _ _ _ _ _ h _ _=> h) ?h0
  (fun x a' W=> ∃ Bx,W0.heap.size≤Bx∧W.heap[Bx]? =some (.cells x.cells 121 (0,0))∧a'={tmps:=#[.slice a ps.length c,.int .i64 pid,undef,undef,.slice none 0 0,.pointer (some ⟨w.heap.size,0,none⟩),.pointer (some ⟨Bx,0,none⟩),.slice a ps.length c,.int .i64 pid,.func (.func 235) #[] #[.pointer (some ⟨w.heap.size + 1,0,none⟩),.pointer (some ⟨w.heap.size + 1 + 1,0,none⟩)],.agg x.cells,undef,undef,undef,undef,undef,undef],defers:=[]})
  ?hAx ?assign ?body ?done ?stop
 case hI=> exact OwnFrom.and (Go.Own.from (holdsRow_own W0.heap.size w.heap.size 27 3 1 (fun pre:List Proc=> (pre.map (·.pid)).length) (fun pre=> flat dC (pre.map (·.pid))) (fun _ _=> True)) _) (OwnFrom.and (ownFrom_below (Nat.le_refl _) (by omega)) (fun _ _ _ _ h hg _=> Nat.le_trans h hg.size))
 case h0=> exact ⟨⟨_,q0,World.ownsRow_nil _ _ _ _,trivial⟩,hB0,Nat.le_refl _⟩
 case hAx=>
  rintro x a' _ X Y row ⟨Bx,h1,h2,h3⟩ hg hr;exact ⟨Bx,h1,dR Bx (fun (_:Unit)=> x.cells) _ () X Y row h2 hg (fun r e=> (hr r e).2),h3⟩
 case assign=>
  rintro l pre x W K ⟨⟨v,hc0,hrow,_⟩,hBW,hWz⟩ hK;have hx1:=dK x;have hz:=hBW.size;have h0:=hlt hc0;have HK:=hU hK;clear hK;gi_wp2_with (refine cC (t:=121) (v:=.agg x.cells) rfl rfl rfl rfl aL.size (fZ W _) rfl (by simp) hx1 (eD rfl) ?_;intro W2 hp2)
  have hb2:Below W.heap.size W W2:=Below.put ((Below.refl W.heap.size W).alloc (Nat.le_refl _) _) hp2 (Nat.le_refl _);exact HK.out _ _ (fJ hb2) (dV.gI hb2) ⟨⟨v,(hb2.block _ h0).trans hc0,cY (show pX W0.heap.size W v (pre.map (·.pid)) from hrow) hb2,trivial⟩,Below.to hBW hb2,Nat.le_trans hWz hb2.size⟩ ⟨W.heap.size,hWz,hp2.at_,rfl⟩
 case body=>
  rintro l pre x a' W hl ⟨r,hr⟩ ⟨⟨v,hc0,hrow,_⟩,hBW,hWz⟩ ⟨Bx,hBx,hbx,rfl⟩ hlt';have c0:W.cell? ⟨Bx,0,none⟩=some (.int .i64 x.pid):=aC hbx 0;have cb:W.cell? ⟨w.heap.size,0,none⟩=some v:=aC hc0 0;have hbz:=hlt hc0;have hbxl:=hlt hbx;have hpl':(pre.map (·.pid)).length≤34359738368:=by rw [List.length_map];omega
  have HO:=hU (show pX W0.heap.size (W.alloc (.cells #[.int .i64 x.pid] 3)) v (pre.map (·.pid)) from cY (show pX W0.heap.size W v (pre.map (·.pid)) from hrow) ((Below.refl _ _).alloc (Nat.le_refl _) _));obtain ⟨v',W1,hrun,hown,hgrow⟩:=qHj v (pre.map (·.pid)) x.pid W0.heap.size W.heap.size (W.alloc (.cells #[.int .i64 x.pid] 3)) HO.out (by simp;omega) (fZ W _) hpl';have HRUN:=hU hrun
  have hob:∀ k,v.ownBlock=some k→W0.heap.size≤k∧∃ c,W.heap[k]? =some (.cells c 3 (0,0)):=fun k hk=> by
   rcases hrow.2 with ⟨rfl,_⟩|⟨g,cap,cur,rfl,hb,hg,_⟩
   · cases hk
   · injection hk with hk
     subst hk;exact ⟨hb,cur,hg⟩
  have hc1:W1.heap[w.heap.size]? =some (.cells #[v] 27 (0,0)):=(hgrow.block w.heap.size (by simp;omega) (fun e=> by have:=(hob _ e.symm).1;omega)).trans (hold hc0);have HC1:=hU hc1;have cb1:W1.cell? ⟨w.heap.size,0,none⟩=some v:=aC hc1 0;have HOWN:=hU hown;have HG:=hU hgrow;have HOB:=hU hob;have HBW:=hU hBW;have HC0:=hU hc0;clear hrun hown hgrow hc1 hob hc0 hrow hbx HO
  gi_wp2_with (first
   |(gi_at_builtin;refine sM _ rfl _ _ _ _ rfl _ _ rfl rfl _ _ HRUN.out ?_)
   |(refine cC (t:=27) (v:=v') (off:=0) (new:=#[v']) rfl rfl rfl rfl uH.size HC1.out (by rw [uZ HOWN.out];rfl) (by simp) (by rw [uZ HOWN.out];intro u hu;simp at hu;subst hu;exact qTc HOWN.out) (by rw [uZ HOWN.out];rfl) ?_;intro W2 hp2;have HP2:=hU hp2;clear hp2))
  have hg:=HG.out;have ha:Below W.heap.size W (W.alloc (.cells #[.int .i64 x.pid] 3)):=(Below.refl _ _).alloc (Nat.le_refl _) _;have hzz:=hg.size;simp only [World.size_alloc] at hzz;have b01:∀ k,k<W0.heap.size→W1.heap[k]? =W.heap[k]? :=fun k hk=> (hg.block k (by simp;omega) (fun e=> by have:=(HOB.out _ e.symm).1;omega)).trans (ha.block k (by omega))
  have kf1:KeepsFrom W0.heap.size W W1:=(fJ ha).trans ((KeepsOthers.of_grownBy hg (fun j o ej ho=> by
   obtain ⟨_,c',hc'⟩:=HOB.out j ej;rw [hold hc'] at ho;cases ho;rfl)).from _)
  refine ⟨kf1.trans (gN HC1.out HP2.out),⟨by rw [HP2.out.size];omega,fun k c' T hk hc'=> (HP2.out.oth k hk.2).trans ((b01 k hk.1).trans hc')⟩,⟨_,HP2.out.at_,?_,trivial⟩,?_,by rw [HP2.out.size];omega⟩
  · have hO:=Own.put HOWN.out HP2.out (by omega);rw [List.map_append];exact hO
  · exact Below.put (HBW.out.trans ⟨hg.os,hg.tape,hg.output,by omega,fun k hk=> b01 k (by omega)⟩) HP2.out (Nat.le_refl _)
 case done=>
  rintro D ys W hD rfl ⟨⟨v,hc0,hrow,_⟩,hBW,hWz⟩ hK;have hc:=aC hc0 0;gi_wp2
  refine ⟨by simp,.inl ⟨_,_,rfl,run_takeDeferred hK,?_⟩⟩;refine ⟨_,results_tmp results212 _ _ _,_,rfl,?_,hBW.trans (belowK_b (w:=w) (Nat.le_refl _) W D _ _ (by omega) hK rfl rfl)⟩;exact KR.Own.sl gS (l:=children ps pid) (show pX W0.heap.size _ v (children ps pid) from ownsRow_putObj hrow _ hK rfl)
 case stop=>
  rintro D j pre W hD hpre h hK;exact h.elim
theorem qCf (a:Option Addr) (c:Nat) (ps:List Proc) (pid:Int) (w:World) (hS:SlP w (.slice a ps.length c) ps) (hpl:ps.length≤1000000):
 Calls prog 212 #[.slice a ps.length c,.int .i64 pid] w (fun e w'=> ∃ v',e=.returned v'∧SlI w' v' (children ps pid)∧Below w.heap.size w w'):=
 (callsIn_wide (n:=3)).1 (qFf 3 (by omega) a c ps pid w hS hpl)
