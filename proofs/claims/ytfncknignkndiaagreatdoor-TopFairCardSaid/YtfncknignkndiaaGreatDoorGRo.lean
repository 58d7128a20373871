/- slices.Clone, one proof for every type: the same things in memory of the call's own. Conditions: as told. -/
import Derived.Test.YtfncknignkndiaaGreatDoorG1
set_option linter.unusedVariables false
set_option maxRecDepth 100000
set_option maxHeartbeats 8000000
set_option linter.unusedSimpArgs false
namespace Go.Proofs.YtfncknignkndiaaGreatDoor
open Tryz
open Go.RowKit KR
namespace Kn
def Cl (T S:TypeId) (n nb:Nat) (F:FuncId):Prop:=∀ (α:Type) (f:α→Array Value) (hsz:∀ x,(f x).size=n) (a:Option Addr) (c:Nat) (l:List α) (w:World),(a=none→l=[])→(∀ ad,a=some ad→∀ j u,(flat f l)[j]? =some u→w.cell? (ad.add j)=some u)→(∀ x ∈ l,∀ u ∈ (f x).toList,u.oneCell'=true)→l.length * nb≤140737488355328→l.length≤9223372036854775807→
 Calls prog F #[.slice a l.length c] w fun e w'=> ∃ v',e=.returned v'∧KR.Own T n f w.heap.size w' v' l∧Below w.heap.size w w'
theorem qOn {w:World} {a:Addr} {v:Value} (h:w.cell? a=some v):a.block<w.heap.size:=by
 rcases Nat.lt_or_ge a.block w.heap.size with h'|h'
 · exact h'
 · simp [World.cell?,Array.getElem?_eq_none h'] at h
theorem clP {T S:TypeId} {n nb:Nat} (hu:prog.underlying S=some (.slice T)) (hi:(prog.info? T).map (fun i=> (i.zero.map (·.cells.size),i.size,i.bytes))=some (some n,n,nb)) (hn0:0<n) {α:Type} {f:α→Array Value} (hsz:∀ x,(f x).size=n) (ad:Addr) (c:Nat) (l:List α) (w:World)
 (hcells:∀ j u,(flat f l)[j]? =some u→w.cell? (ad.add j)=some u) (hones:∀ x ∈ l,∀ u ∈ (f x).toList,u.oneCell'=true) (hb:l.length * nb≤140737488355328) (hl:l.length≤9223372036854775807):
 ∃ v' W',(Builtin.append_ #[S,S] S #[.slice (some ⟨w.heap.size,0,none⟩) 0 0,.slice (some ad) l.length c]).run prog (w.alloc (.cells #[] T))=.ok v' W'∧KR.Own T n f w.heap.size W' v' l∧Below w.heap.size w W':=by
 obtain ⟨i,z,hi0,hz,hzs,hs,hby⟩:=iK hi;have hcl:∀ o j u,(flat f l)[j]? =some u→(w.alloc o).cell? (ad.add j)=some u:=fun o j u hj=> (((Below.refl w.heap.size w).alloc (Nat.le_refl _) o).cell (qOn (hcells j u hj))).trans (hcells j u hj)
 obtain ⟨v',W',hrun,hown',hgrow,_⟩:=run_append_own (P:=prog) (w.alloc (.cells #[] T)) w.heap.size S S T i z n nb hu hi0 hz hs hby hzs hn0 (.slice (some ⟨w.heap.size,0,none⟩) 0 0) 0 []
  (World.ownsRow_made w #[] 0 (Nat.le_refl _) (Nat.zero_le _) (by simp)) ad l.length c (flat f l) (dX hsz l) (hcl _)
  (by intro u hu;unfold flat at hu;rw [List.mem_flatMap] at hu;obtain ⟨x,hx1,hx⟩:=hu;exact hones x hx1 u hx)
  (by unfold maxLen;omega) (by rw [Nat.zero_add];exact hb) (by simp)
 refine ⟨v',W',hrun,by simpa [KR.Own] using hown',⟨hgrow.os,hgrow.tape,hgrow.output,by have:=hgrow.size;simp at this;omega,fun k hk=> by
  rw [hgrow.block k (by simp;omega) (by simp [Value.ownBlock];omega),Lib.alloc_old w _ k hk]⟩⟩
theorem clM {Q:Prop} (h:Q:=by
 intro α f hsz a c l w h0 h1 hones hb hl;have q:=fun (w:World) (a:Option Addr) (n c n' c':Nat)=> Lib.run_eql_slice_nil (P:=prog) w _ _ a n c n' c' hu;cases a with
 |none=>
  obtain rfl:=h0 rfl;clear h1 hones hb hl h0;go_in;refine sg ?_;intros;go_ret;exact ⟨_,rfl,KR.Own.nil _ _ _ _ _,Below.refl _ _⟩
 |some ad=>
  obtain ⟨v',W',hrun,hO,hB⟩:=clP hu hi (by decide) hsz ad c l w (h1 ad rfl) hones hb hl;have HRUN:=hU hrun;have HO:=hU hO;have HB:=hU hB;clear h0 h1 hones hb hl hrun hO hB;go_in;repeat' (first|(at_builtin;refine cV _ rfl _ _ _ _ rfl _ _ rfl rfl _ _ HRUN.out ?_)|go_values|go_skip|go_guarded|refine wg ?_|go_step|go_upon)
  go_ret;exact ⟨_,rfl,HO.out,HB.out⟩):Q:=h
theorem clS {T S:TypeId} {n nb:Nat} {F:FuncId} (hc:Cl T S n nb F) {α:Type} {f:α→Array Value} (hsz:∀ x,(f x).size=n) {v:Value} {l:List α} {w:World} (h:Sl T n f w v l) (hones:∀ x ∈ l,∀ u ∈ (f x).toList,u.oneCell'=true) (hb:l.length * nb≤140737488355328:=by omega):
 Calls prog F #[v] w fun e w'=> ∃ v',e=.returned v'∧KR.Own T n f w.heap.size w' v' l∧Below w.heap.size w w':=by
 obtain ⟨a,c,rfl,h1,h2⟩:=h.shape;refine hc α f hsz a c l w (fun ha=> ?_) (fun ad ha j u hj=> ?_) hones hb (by omega)
 · subst ha;obtain ⟨_,_,he,_,_,hl⟩:=h;injection he with ha _ _
   rcases hl with rfl|⟨b,off,cur,hb,_⟩
   · rfl
   · rw [← ha] at hb;cases hb
 · subst ha;have h':=h;obtain ⟨_,_,he,_,_,hl⟩:=h;injection he with ha _ _
   rcases hl with rfl|⟨b,off,cur,hb,hbl,_⟩
   · simp [flat] at hj
   · rw [hb] at ha;injection ha with ha
     subst ha;rw [oL];exact Sl.lJ hsz h' j u hj
theorem qWm:Cl 121 26 26 168 117:=by
 have hu:=underlying26;have hi:(prog.info? 121).map (fun i=> (i.zero.map (·.cells.size),i.size,i.bytes))=some (some 26,26,168):=by kernel_rfl
 exact clM
theorem xA (v:Value) (l:List Proc) (w:World) (h:Sl 121 26 Proc.cells w v l) (hn:l.length≤68719476736):Calls prog 117 #[v] w fun e w'=> ∃ v',e=.returned v'∧Own 121 26 Proc.cells w.heap.size w' v' l∧Below w.heap.size w w':=
 clS qWm eE h (fun x _=> List.all_eq_true.1 (show ((Proc.cells x).toList.all (·.oneCell'))=true from rfl))
theorem qSa:Cl 48 30 2 16 190:=by
 have hu:=underlying30;have hi:(prog.info? 48).map (fun i=> (i.zero.map (·.cells.size),i.size,i.bytes))=some (some 2,2,16):=by kernel_rfl
 exact clM
theorem nG (v:Value) (l:List Alarm) (w:World) (h:Sl 48 2 Alarm.cells w v l) (hn:l.length≤68719476736):Calls prog 190 #[v] w fun e w'=> ∃ v',e=.returned v'∧Own 48 2 Alarm.cells w.heap.size w' v' l∧Below w.heap.size w w':=
 clS qSa pR h (fun x _=> List.all_eq_true.1 (show ((Alarm.cells x).toList.all (·.oneCell'))=true from rfl))
theorem qWo:Cl 208 32 3 24 115:=by
 have hu:=underlying32;have hi:(prog.info? 208).map (fun i=> (i.zero.map (·.cells.size),i.size,i.bytes))=some (some 3,3,24):=by kernel_rfl
 exact clM
theorem xB (v:Value) (l:List Span) (w:World) (h:Sl 208 3 Span.cells w v l) (hn:l.length≤68719476736):Calls prog 115 #[v] w fun e w'=> ∃ v',e=.returned v'∧Own 208 3 Span.cells w.heap.size w' v' l∧Below w.heap.size w w':=
 clS qWo lP h (fun x _=> List.all_eq_true.1 (show ((Span.cells x).toList.all (·.oneCell'))=true from rfl))
theorem qZi:Cl 3 27 1 8 196:=by
 have hu:=underlying27;have hi:(prog.info? 3).map (fun i=> (i.zero.map (·.cells.size),i.size,i.bytes))=some (some 1,1,8):=by kernel_rfl
 exact clM
theorem qOo (v:Value) (l:List Int) (w:World) (h:Sl 3 1 dC w v l) (hn:l.length≤68719476736):Calls prog 196 #[v] w fun e w'=> ∃ v',e=.returned v'∧Own 3 1 dC w.heap.size w' v' l∧Below w.heap.size w w':=
 clS qZi gS h (fun x _=> List.all_eq_true.1 (show ((dC x).toList.all (·.oneCell'))=true from rfl))
theorem qWl:Cl 191 31 3 32 116:=by
 have hu:=underlying31;have hi:(prog.info? 191).map (fun i=> (i.zero.map (·.cells.size),i.size,i.bytes))=some (some 3,3,32):=by kernel_rfl
 exact clM
theorem sD (v:Value) (l:List cG) (w:World) (h:Sl 191 3 cG.cells w v l) (hn:l.length≤68719476736):Calls prog 116 #[v] w fun e w'=> ∃ v',e=.returned v'∧Own 191 3 cG.cells w.heap.size w' v' l∧Below w.heap.size w w':=
 clS qWl fB h (fun x _=> List.all_eq_true.1 (show ((cG.cells x).toList.all (·.oneCell'))=true from rfl))
theorem qZh:Cl 145 37 2 32 151:=by
 have hu:=underlying37;have hi:(prog.info? 145).map (fun i=> (i.zero.map (·.cells.size),i.size,i.bytes))=some (some 2,2,32):=by kernel_rfl
 exact clM
theorem qFq (v:Value) (l:List fY) (w:World) (h:Sl 145 2 aX w v l) (hn:l.length≤68719476736):Calls prog 151 #[v] w fun e w'=> ∃ v',e=.returned v'∧Own 145 2 aX w.heap.size w' v' l∧Below w.heap.size w w':=
 clS qZh qV h (fun x _=> List.all_eq_true.1 (show ((aX x).toList.all (·.oneCell'))=true from rfl))
theorem qSl (v:Value) (l:List (cG)) (x:cG) (B xb:Nat) (w:World) (h:Own 191 3 cG.cells B w v l) (hB:B≤w.heap.size) (hx:w.heap[xb]? =some (.cells (cG.cells x) 191 (0,0))) (hn:l.length≤34359738368):
 ∃ v' W',(Builtin.append_ #[31,31] 31 #[v,.slice (some ⟨xb,0,none⟩) 1 1]).run prog w=.ok v' W'∧Own 191 3 cG.cells B W' v' (l ++ [x])∧Below B w W':=by
 have hi:(prog.info? 191).map (fun i=> (i.zero.map (·.cells.size),i.size,i.bytes))=some (some 3,3,32):=by kernel_rfl
 obtain ⟨i,z,hi0,hz,hzs,hs,hby⟩:=iK hi
 obtain ⟨v',W',hrun,hown',hgrow,_⟩:=run_append_own (P:=prog) w B 31 31 191 i z 3 32 underlying31 hi0 hz hs hby hzs (by decide) v l.length (flat cG.cells l) h ⟨xb,0,none⟩ 1 1 (cG.cells x).toList (by rw [Array.length_toList,fB,Nat.one_mul])
  (by intro j u hj;rw [oL,Nat.zero_add,aC hx];simpa using hj) (uJ x) (by unfold maxLen;omega) (by omega) hB
 refine ⟨v',W',hrun,?_,⟨hgrow.os,hgrow.tape,hgrow.output,hgrow.size,fun k hk=> ?_⟩⟩
 · unfold Own;rw [eQ,List.length_append];simpa [flat] using hown'
 · rw [hgrow.block k (by omega) (fun e=> by
    have:=(World.ownsRow.lt h k e.symm).1
    omega)]
theorem qSo (v:Value) (l:List (cG)) (pr:cG→Bool) (F:FuncId) (w:World) (h:Sl 191 3 cG.cells w v l)
 (hen:Enters prog F) (hcl:∀ x,∀ W,Below w.heap.size w W→Calls prog F #[.agg x.cells] W (aN (.bool (pr x)) W)):
 Calls prog 230 #[v,.func (.func F) #[] #[]] w (aN (.int .i64 (idx l pr)) w):=by
 obtain ⟨a,c,rfl,hnc,hmax⟩:=h.shape;obtain ⟨_,_,_,hel⟩:=h.elem;have HEL:=hU hel;have HCL:=hU hcl;have HEN:=hU hen;clear hel hcl h hen;go_in;refine sg ?_;intros;go_loopw [8] (fun v wr=> Seek w l pr v wr) (fun v _=> l.length - (intOf v).toNat)
 case atStart=> exact ⟨0,Nat.zero_le _,rfl,Below.refl _ _,fun j y hj=> absurd hj (Nat.not_lt_zero _)⟩
 case round=>
  obtain ⟨k,hk,rfl,hb,hno⟩:=hrel;have HB:=hU hb;have HA:=hU hno;clear hb hno;by_cases hlt:k<l.length
  · obtain ⟨x,hx⟩:∃ x,l[k]? =some x:=⟨_,List.getElem?_eq_getElem hlt⟩
    obtain ⟨b,off,rfl,hbl,aC⟩:=HEL.out k x hx;have HX:=hU hx;have HLD:Hid ((Instr.loadAt 191 (.pointer (some ⟨b,off + k * 3,none⟩))).run prog wr=.ok (.agg x.cells) wr):=hU (cA iD rfl (aC wr HB.out));clear aC hx;generalize hxc:x.cells=xc at HLD;repeat' (first|(refine aE rfl rfl rfl HLD.out ?_)|go_values|go_skip|go_guarded|refine wg ?_|go_step|go_upon)
    rw [HEN.out,Oper.upon_enter];have hcal:=HCL.out x wr HB.out;rw [hxc] at hcal;refine hcal.mono ?_;rintro e w1 ⟨rfl,hb1⟩;cases hp:pr x
    all_goals
     have HP:=hU hp;clear hp;dsimp only;refine sg ?_;intros
    · exact ⟨⟨k + 1,by omega,by go_num,Below.to HB.out hb1,fun j y hj hy=> by
       rcases Nat.lt_succ_iff_lt_or_eq.1 hj with h|rfl
       · exact HA.out j y h hy
       · rw [HX.out] at hy;injection hy with hy
         subst hy;exact HP.out⟩,by simp [intOf];omega⟩
    · go_ret;exact fA (zS HX.out HA.out HP.out).symm (Below.to HB.out hb1)
  · refine sg ?_;intros;go_ret;refine fA (uE (fun j y hj hy=> HA.out j y (by omega) hy)).symm HB.out
theorem qPb (v:Value) (l:List (Int)) (pr:Int→Bool) (F:FuncId) (cap:Value) (w:World) (h:Sl 3 1 dC w v l)
 (hen:Enters prog F) (hcl:∀ x,∀ W,Below w.heap.size w W→Calls prog F #[.int .i64 x,cap] W (aN (.bool (pr x)) W)):
 Calls prog 193 #[v,.func (.func F) #[] #[cap]] w (aN (.int .i64 (idx l pr)) w):=by
 obtain ⟨a,c,rfl,hnc,hmax⟩:=h.shape;obtain ⟨_,_,_,hel⟩:=h.elem;have HEL:=hU hel;have HCL:=hU hcl;have HEN:=hU hen;clear hel hcl h hen;go_in;refine sg ?_;intros;go_loopw [8] (fun v wr=> Seek w l pr v wr) (fun v _=> l.length - (intOf v).toNat)
 case atStart=> exact ⟨0,Nat.zero_le _,rfl,Below.refl _ _,fun j y hj=> absurd hj (Nat.not_lt_zero _)⟩
 case round=>
  obtain ⟨k,hk,rfl,hb,hno⟩:=hrel;have HB:=hU hb;have HA:=hU hno;clear hb hno;by_cases hlt:k<l.length
  · obtain ⟨x,hx⟩:∃ x,l[k]? =some x:=⟨_,List.getElem?_eq_getElem hlt⟩
    obtain ⟨b,off,rfl,hbl,aC⟩:=HEL.out k x hx;have HX:=hU hx;have hc0:=aC wr HB.out 0 (.int .i64 x) rfl;rw [Nat.mul_one,Nat.add_zero] at hc0;clear aC hx;refine sg ?_;intros;rw [HEN.out,Oper.upon_enter];have hcal:=HCL.out x wr HB.out;refine hcal.mono ?_;rintro e w1 ⟨rfl,hb1⟩;cases hp:pr x
    all_goals
     have HP:=hU hp;clear hp;dsimp only;refine sg ?_;intros
    · exact ⟨⟨k + 1,by omega,by go_num,Below.to HB.out hb1,fun j y hj hy=> by
       rcases Nat.lt_succ_iff_lt_or_eq.1 hj with h|rfl
       · exact HA.out j y h hy
       · rw [HX.out] at hy;injection hy with hy
         subst hy;exact HP.out⟩,by simp [intOf];omega⟩
    · go_ret;exact fA (zS HX.out HA.out HP.out).symm (Below.to HB.out hb1)
  · refine sg ?_;intros;go_ret;refine fA (uE (fun j y hj hy=> HA.out j y (by omega) hy)).symm HB.out
theorem qWq (v:Value) (l:List (Int)) (pr:Int→Bool) (F:FuncId) (cap:Value) (B:Nat) (w:World) (h:Own 3 1 dC B w v l) (hB:B≤w.heap.size) (hen:Enters prog F)
 (hcl:∀ x,∀ W,Below B w W→Calls prog F #[(.int .i64 x),cap] W (aN (.bool (pr x)) W)):
 Calls prog 195 #[v,.func (.func F) #[] #[cap]] w (fun e w'=> ∃ v',e=.returned v'∧Own 3 1 dC B w' v' (l.filter (fun x=> !pr x))∧Below B w w'):=by
 have hidx:=qPb v l pr F cap w (h.sl gS) hen (fun x W hb=> hcl x W (hb.mono hB));have HIDX:=hU hidx;have HCL:=hU hcl;have HEN:=hU hen;clear hidx hcl hen;cases hfi:l.findIdx? pr with
 |none=>
  have hno:∀ j y,j<l.length→l[j]? =some y→pr y=false:=by
   intro j y hj hy;rw [List.findIdx?_eq_none_iff] at hfi;exact hfi y (List.mem_of_getElem? hy)
  have hi:idx l pr= -1:=by rw [idx,hfi]
  rw [hi] at HIDX;have hfil:=filter_all hno;obtain ⟨a,c,hv,_,_⟩:=(h.sl gS).shape;subst hv;have HO:=hU h;clear h hno hi hfi;go_in;repeat' (first|(go_at_call 193;refine HIDX.out.mono ?_;rintro e w1 ⟨rfl,hb1⟩;dsimp only)|go_values|go_skip|go_guarded|refine wg ?_|go_step|go_upon)
  go_ret;rw [hfil];exact ⟨_,rfl,cY HO.out hb1,hb1.mono hB⟩
 |some k=>
  have hi:idx l pr=(k:Int):=by rw [idx,hfi]
  rw [hi] at HIDX;rw [List.findIdx?_eq_some_iff_getElem] at hfi;obtain ⟨hk,hpk,hno⟩:=hfi;have hxk:l[k]? =some l[k]:=List.getElem?_eq_getElem hk
  have hF:=tZ hxk hpk (fun j y hj hy=> by
   obtain ⟨hj',hy⟩:=List.getElem?_eq_some_iff.1 hy;have:=hno j hj
   rw [hy] at this;simpa using this)
  obtain ⟨g,cp,cur,rfl,hBg,hrow⟩:=h.row (by intro e;subst e;simp at hk);have hcm:=hrow.2.2.1;have hnc:=hrow.2.1;unfold maxLen at hcm;have HROW:=hU hrow;have HF:=hU hF;have hkI:((k:Int)== -1)=false:=by simp
  clear hrow h hno hpk hi hF;go_in;repeat' (first|(go_at_call 193;refine HIDX.out.mono ?_;rintro e w1 ⟨rfl,hb1⟩;clear HIDX;dsimp only)|go_values|go_skip|go_guarded|refine wg ?_|go_step|go_upon)
  go_loopw [5,6] (fun iv jv wr=> qNe 3 1 dC B w l pr g cp iv jv wr) (fun _ jv _=> l.length - (intOf jv).toNat)
  case atStart=>
   refine ⟨k + 1,[l[k]],cur,hk,by rw [HF.out,List.length_take,Nat.min_eq_left (Nat.le_of_lt hk)],by go_num,by rw [HF.out,List.length_take,Nat.min_eq_left (Nat.le_of_lt hk)];rfl,by simp,?_,hb1.mono hB⟩;rw [HF.out,List.append_assoc,List.singleton_append,← (cD hxk).2,List.take_append_drop];exact HROW.out.same (hb1.block g (hlt HROW.out.1))
  case round=>
   clear HROW HF hkI hxk hk hb1;obtain ⟨j,m,cur,hj,rfl,rfl,hjm,hm,hrow,hbel⟩:=hrel;have HROW:=hU hrow;have HB:=hU hbel;have hz:=hbel.size;have hgl:=hlt hrow.1
   have hlen:((l.take j).filter (fun x=> !pr x) ++ m ++ l.drop j).length=l.length:=by
    rw [List.length_append,List.length_append,List.length_drop];omega
   have hrl:=hrow.2.1;rw [hlen] at hrl;clear hrow hbel;by_cases hjl:j<l.length
   · obtain ⟨x,hx⟩:∃ x,l[j]? =some x:=⟨_,List.getElem?_eq_getElem hjl⟩
     have hxr:((l.take j).filter (fun x=> !pr x) ++ m ++ l.drop j)[j]? =some x:=by
      rw [List.getElem?_append_right (by rw [List.length_append];omega),List.length_append,hjm,Nat.sub_self,List.getElem?_drop];exact hx
     have HX:=hU hx;have hc0:=HROW.out.get gS hxr 0 (.int .i64 x) rfl;rw [Nat.mul_one,Nat.add_zero] at hc0;clear hxr hx;have hcal:=hU (fun W hb=> HCL.out x W hb);have HX1:=hU (gJ x);have HSET:=hU (fun (W W':World) (cu:Array Value) (hr:Row 3 1 dC W g cp ((l.take j).filter (fun x=> !pr x) ++ m ++ l.drop j) cu) (hp:Put g (aQ cu (((l.take j).filter (fun x=> !pr x)).length * 1) (dC x)) 3 W W')=> Row.set gS hr (i:=((l.take j).filter (fun x=> !pr x)).length) (by rw [hlen];omega) rfl hp)
     have hfit:((l.take j).filter (fun x=> !pr x)).length * 1 + 1≤cur.size:=by
      rw [HROW.out.2.2.2.1]
      have:(((l.take j).filter (fun x=> !pr x)).length + 1) * 1≤cp * 1:=Nat.mul_le_mul_right _ (by omega)
      omega
     rw [Nat.mul_one] at hfit;simp only [Nat.mul_one] at HSET;have HFIT:=hU hfit;clear hfit;refine sg ?_;intros;rw [HEN.out,Oper.upon_enter];refine (hcal.out wr HB.out).mono ?_;rintro e w2 ⟨rfl,hb2⟩;have hz2:=hb2.size;have HB2:=hU hb2;have HR2:=hU (HROW.out.same (HB2.out.block g hgl));clear hcal hb2 HROW hc0;cases hp:pr x
     all_goals
      have HP:=hU hp;clear hp;dsimp only
     · repeat' (first
        |(refine aK (v:=.int .i64 x) (off:=((l.take j).filter (fun x=> !pr x)).length) rfl rfl rfl rfl cO.size HR2.out.1 rfl HFIT.out HX1.out rfl ?_;intro W3 hp3;have HR3:=hU (HSET.out w2 W3 cur HR2.out hp3);have HB3:=hU (Below.put (HB.out.trans (HB2.out.mono (Nat.le_trans hB hz))) hp3 hBg);clear hp3)
        |go_values|go_skip|go_guarded|refine wg ?_|go_step|go_upon)
       obtain ⟨e1,e2⟩:=qFt (m:=m) HX.out HP.out hm;have hr3:=HR3.out;rw [e2,← e1] at hr3;exact ⟨⟨j + 1,m.tail ++ [x],_,by omega,by rw [e1,List.length_append];go_num,by go_num,by rw [e1,List.length_append,List.length_append,List.length_tail];simp;omega,by simp,hr3,HB3.out⟩,by simp [intOf];omega⟩
     · refine sg ?_;intros;obtain ⟨e1,e2⟩:=qJp (m:=m) HX.out HP.out;refine ⟨⟨j + 1,m ++ [x],cur,by omega,by rw [e1],by go_num,by rw [e1,List.length_append];simp;omega,by simp,?_,HB.out.trans (HB2.out.mono (Nat.le_trans hB hz))⟩,by simp [intOf];omega⟩;rw [e1,← e2];exact HR2.out
   · obtain rfl:j=l.length:=by omega
     rw [List.take_length,List.drop_length,List.append_nil] at *;generalize hL:l.filter (fun x=> !pr x)=L at *;have hiI:(L.length:Int)≤l.length:=by omega
     have hi0:L.length<l.length:=by omega
     have hfit:L.length + (l.length - L.length) * 1≤cur.size:=by
      rw [HROW.out.2.2.2.1];omega
     have hones:∀ u ∈ (Builtin.zeroCells ((Value.int .i64 0).cells) (l.length - L.length)).toList,u.oneCell'=true:=tN (by decide);have HRUN:=hU (qDa (ty:=0) (c:=cp - L.length) underlying27 (qTu wr) (Nat.sub_pos_of_lt hi0) HROW.out.1 hfit hones);have hput:=nV (cs:=aQ cur L.length (Builtin.zeroCells ((Value.int .i64 0).cells) (l.length - L.length))) HROW.out.1;have hcut:=(HROW.out.cut gS).past (gK (by rw [size_zeroCells];exact hfit)) (by rw [Nat.mul_one];exact zB (by rw [HROW.out.2.2.2.1];omega)) hput;have HOWN:=hU (hcut.own gS hBg);have HBW:=hU (Below.put HB.out hput hBg);have HL:=hU hL;clear hfit hones hL hput hcut;repeat' (first|(refine uS rfl _ _ rfl _ rfl _ HRUN.out ?_)|go_values|go_skip|go_guarded|refine wg ?_|go_step|go_upon)
     go_ret;refine ⟨_,rfl,?_,HBW.out⟩;rw [HL.out];exact HOWN.out
