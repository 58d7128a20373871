/- The law DedParts: it answers true. Conditions: rows that there can be; the table of the instructions' parts lies there. The card of DedParts: what is due and what is left are together all stamps, in order, what is left begins with a later one; for every stamps and every time. The law DedBegins: it answers true. Conditions: rows that there can be; the table of the instructions' parts lies there. The card of DedBegins: a row begins itself, one that begins another one that begins a third one begins that, two that begin each other are the same; for every rows. -/
import Derived.Test.YtbhecddpnpkdpaaGreatDoorGDe
import Derived.Test.YtbhecddpnpkdpaaGreatDoorGCard
set_option linter.unusedVariables false
set_option maxRecDepth 100000
set_option maxHeartbeats 8000000
set_option linter.unusedSimpArgs false
namespace Go.Proofs.YtbhecddpnpkdpaaGreatDoor
open Go.RowKit KR RegT3
namespace Kn
theorem neqStamp (a:Stamp) (W:World):(binOp .neq 80 (.agg (Stamp.cells a)) (.agg (Stamp.cells a))).run Tryz.prog W=.ok (.bool false) W:=by
 unfold Stamp.cells
 go_simp
def PartsR (w:World) (n:Nat) (iv:Value) (W:World):Prop:=∃ i:Nat,i≤n∧iv=.int .i64 i∧Hid (Below w.heap.size w W)
theorem LDedParts (v:Value) (l:List Stamp) (now:Int) (w:World) (hl:Rd 3 Stamp.cells w v l) (n0:0≤now) (n1:now≤18446744073709551615) (hT:Tab w):
 Calls Tryz.prog 10 #[v,.int .u64 now] w (Gives (.bool true) w):=by
 have HRL:=hU (fun W (h:Below w.heap.size w W)=> hl.below h)
 have HT:=hU (fun W (h:Below w.heap.size w W)=> hT.below h)
 have HB:Hid (Below w.heap.size w w):=hU (Below.refl _ _)
 obtain ⟨a0,c0,rfl,hc,hm⟩:=hl.shape
 clear hl hT
 go_enter Tryz.func10,Tryz.ntmps10
 repeat' (first|go_values|go_skip|go_guarded|(with_reducible refine wg ?_)|go_step|go_upon)
 refine (LShownD _ (HT.out _ HB.out)).mono ?_
 rintro er Wn ⟨rfl,hb⟩
 replace HB:=nW hb HB
 clear hb
 dsimp only
 repeat' (first|go_values|go_skip|go_guarded|(with_reducible refine wg ?_)|go_step|go_upon)
 refine (SDue _ l now _ (HRL.out _ HB.out)).mono ?_
 rintro er Wn ⟨v1,v2,rfl,hv,hb⟩
 replace HB:=nW hb HB
 clear hb
 have HV:=hU (fun W (h:Below w.heap.size w W)=> hv W (HRL.out W h))
 clear hv
 obtain ⟨d,hd⟩:∃ d,sdue l now=d:=⟨_,rfl⟩
 have hdl:d≤l.length:=by rw [← hd];exact sdue_le _ _
 have HAT:Hid (∀ i a,i≤d→l[i]? =some a→(now<a.at_↔i=d)):=hU (by rw [← hd];exact fun i a h1 h2=> sdue_at h1 h2)
 rw [hd] at HV
 clear hd
 obtain ⟨a1,c1,hv1,_,hc1⟩:=(HV.out Wn HB.out).1.shape
 obtain ⟨a2,c2,hv2,_,hc2⟩:=(HV.out Wn HB.out).2.shape
 rw [show (l.take d).length=d by rw [List.length_take,Nat.min_eq_left hdl]] at hv1
 rw [show (l.drop d).length=l.length - d from List.length_drop ..] at hv2
 obtain ⟨e,he⟩:∃ e,l.length - d=e:=⟨_,rfl⟩
 rw [he] at hv2
 rw [hv1,hv2] at HV
 subst hv1 hv2
 have hne:d + e=l.length:=by omega
 have hsum:IntKind.i64.wrap ((d:Int) + (e:Int))=(l.length:Int):=by rw [IntKind.wrap_i64];omega
 have HE:=hU he
 clear he
 dsimp only
 obtain ⟨n,hn⟩:∃ n,l.length=n:=⟨_,rfl⟩
 have HNL:=hU hn
 rw [hn] at hc hdl hne hsum ⊢
 clear hn
 repeat' (first|go_values|go_skip|go_guarded|(with_reducible refine wg ?_)|go_step|go_upon)
 clear hsum
 go_loopw [8] (fun iv wr=> PartsR w n iv wr) (fun iv _=> n - (intOf iv).toNat)
 case atStart=> exact ⟨0,Nat.zero_le _,rfl,HB⟩
 case round=>
  clear HB
  obtain ⟨i,hi,rfl,HB⟩:=hrel
  obtain ⟨Wn,rfl⟩:∃ Wn,Wn=wr:=⟨_,rfl⟩
  by_cases hin:i<n
  · have hj1:decide ((i:Int)<(n:Int))=true:=by simp [hin]
    have hj2:(i:Int)<(n:Int):=by omega
    have hj0:(0:Int)≤(i:Int):=by omega
    obtain ⟨a,hx⟩:∃ a,l[i]? =some a:=⟨_,List.getElem?_eq_getElem (by have:=HNL.out;omega)⟩
    obtain ⟨g0,o0,rfl,_,q0⟩:=(HRL.out Wn HB.out).elem.2.2.2 i a hx
    have HQ0:=hU (q0 Wn (Below.refl _ _))
    have hq:=neqStamp a
    clear q0
    by_cases hid:i<d
    · have hd1:decide ((i:Int)<(d:Int))=true:=by simp [hid]
      have hd2:decide ((d:Int)≤(i:Int))=false:=by simp;omega
      have hd3:(i:Int)<(d:Int):=by omega
      have hd4:decide (d≤i)=false:=by simp;omega
      have hd5:¬ d≤i:=by omega
      have hx1:(l.take d)[i]? =some a:=by rw [List.getElem?_take,if_pos hid];exact hx
      obtain ⟨g1,o1,rfl,_,q1⟩:=(HV.out Wn HB.out).1.elem.2.2.2 i a hx1
      have HQ1:=hU (q1 Wn (Below.refl _ _))
      have hgt:decide (now<a.at_)=false:=by
       have:=HAT.out i a (by omega) hx
       simp only [decide_eq_false_iff_not]
       omega
      clear q1 hx hx1
      repeat' (first|go_values|go_skip|go_guarded|(with_reducible refine wg ?_)|go_step|go_upon)
      refine wp_region_noPanic ?_
      refine go0 (S:=fun W=> (∀ j u,(Stamp.cells a)[j]? =some u→W.cell? ⟨g0,o0 + i * 3 + j,none⟩=some u)∧(∀ j u,(Stamp.cells a)[j]? =some u→W.cell? ⟨g1,o1 + i * 3 + j,none⟩=some u)∧W.cell? ⟨g1,o1 + i * 3,none⟩=some (.int .u64 a.at_)) [] (⟨HQ0.out,HQ1.out,HQ1.out 0 _ rfl⟩) fun hS=> ?_
      refine tp 0 ?_;(try simp only [acts])
      refine tp 1 ?_;(try simp only [acts])
      refine tp 2 ?_;(try simp only [acts])
      refine tp 3 ?_;(try simp only [acts])
      refine tp 4 ?_;(try simp only [acts])
      refine tp 5 ?_;(try simp only [acts])
      refine tp 6 ?_;(try simp only [acts])
      refine tp 7 ?_;(try simp only [acts])
      refine tv 8 (.agg (Stamp.cells a)) (fun W hSW=> run_val_load rfl rfl (run_load_arr aggStamp rfl hSW.2.1)) ?_;(try simp only [acts])
      refine tp 9 ?_;(try simp only [acts])
      refine tp 10 ?_;(try simp only [acts])
      refine tp 11 ?_;(try simp only [acts])
      refine tv 12 (.agg (Stamp.cells a)) (fun W hSW=> run_val_load rfl rfl (run_load_arr aggStamp rfl hSW.1)) ?_;(try simp only [acts])
      refine tp 13 ?_;(try simp only [acts])
      refine tp 14 ?_;(try simp only [acts])
      refine tp 15 ?_;(try simp only [acts])
      refine tp 16 ?_;(try simp only [acts])
      refine tp 17 ?_;(try simp only [acts])
      refine tp 18 ?_;(try simp only [acts])
      refine tl 19 ?_;(try simp only [acts])
      refine tp 20 ?_;(try simp only [acts])
      refine tp 21 ?_;(try simp only [acts])
      refine tp 22 ?_;(try simp only [acts])
      refine tp 23 ?_;(try simp only [acts])
      refine tp 24 ?_;(try simp only [acts])
      refine tp 25 ?_;(try simp only [acts])
      refine tp 26 ?_;(try simp only [acts])
      refine tp 27 ?_;(try simp only [acts])
      refine tp 28 ?_;(try simp only [acts])
      refine tp 29 ?_;(try simp only [acts])
      refine tn 30 ?_;(try simp only [acts])
      refine tn 31 ?_;(try simp only [acts])
      refine tn 32 ?_;(try simp only [acts])
      refine tn 33 ?_;(try simp only [acts])
      refine tn 34 ?_;(try simp only [acts])
      refine tn 35 ?_;(try simp only [acts])
      refine tn 36 ?_;(try simp only [acts])
      refine tn 37 ?_;(try simp only [acts])
      refine tn 38 ?_;(try simp only [acts])
      refine tn 39 ?_;(try simp only [acts])
      refine tn 40 ?_;(try simp only [acts])
      refine tn 41 ?_;(try simp only [acts])
      refine tp 42 ?_;(try simp only [acts])
      refine tp 43 ?_;(try simp only [acts])
      refine doneL (by kernel_rfl) (NoPanic.normal ?_) _
      clear hS
      repeat' (first|go_values|go_skip|go_guarded|(with_reducible refine wg ?_)|go_step|go_upon)
      exact ⟨⟨i + 1,by omega,by go_num,hU HB.out.drew⟩,by simp [intOf];omega⟩
    · have hd1:decide ((i:Int)<(d:Int))=false:=by simp;omega
      have hd2:decide ((d:Int)≤(i:Int))=true:=by simp;omega
      have hd4:decide (i<d)=false:=by simp;omega
      have hd5:d≤i:=by omega
      obtain ⟨k,hk⟩:∃ k,i - d=k:=⟨_,rfl⟩
      have hke:k<e:=by omega
      have hx1:(l.drop d)[k]? =some a:=by rw [List.getElem?_drop,← hk,show d + (i - d)=i by omega];exact hx
      obtain ⟨g2,o2,rfl,_,q2⟩:=(HV.out Wn HB.out).2.elem.2.2.2 k a hx1
      have HQ2:=hU (q2 Wn (Below.refl _ _))
      have hw:IntKind.i64.wrap ((i:Int) - (d:Int))=(k:Int):=by rw [IntKind.wrap_i64];omega
      have hk1:(k:Int)<(e:Int):=by omega
      have hk0:(0:Int)≤(k:Int):=by omega
      have HK:=hU hk
      clear q2 hx hx1 hk
      repeat' (first|go_values|go_skip|go_guarded|(with_reducible refine wg ?_)|go_step|go_upon)
      refine wp_region_noPanic ?_
      refine go0 (S:=fun W=> (∀ j u,(Stamp.cells a)[j]? =some u→W.cell? ⟨g0,o0 + i * 3 + j,none⟩=some u)∧(∀ j u,(Stamp.cells a)[j]? =some u→W.cell? ⟨g2,o2 + k * 3 + j,none⟩=some u)) [] (⟨HQ0.out,HQ2.out⟩) fun hS=> ?_
      refine tp 0 ?_;(try simp only [acts])
      refine tp 1 ?_;(try simp only [acts])
      refine tp 2 ?_;(try simp only [acts])
      refine tp 3 ?_;(try simp only [acts])
      refine tp 4 ?_;(try simp only [acts])
      refine tn 5 ?_;(try simp only [acts])
      refine tn 6 ?_;(try simp only [acts])
      refine tn 7 ?_;(try simp only [acts])
      refine tn 8 ?_;(try simp only [acts])
      refine tn 9 ?_;(try simp only [acts])
      refine tn 10 ?_;(try simp only [acts])
      refine tn 11 ?_;(try simp only [acts])
      refine tn 12 ?_;(try simp only [acts])
      refine tn 13 ?_;(try simp only [acts])
      refine tn 14 ?_;(try simp only [acts])
      refine tn 15 ?_;(try simp only [acts])
      refine tn 16 ?_;(try simp only [acts])
      refine tn 17 ?_;(try simp only [acts])
      refine tn 18 ?_;(try simp only [acts])
      refine tn 19 ?_;(try simp only [acts])
      refine tn 20 ?_;(try simp only [acts])
      refine tn 21 ?_;(try simp only [acts])
      refine tn 22 ?_;(try simp only [acts])
      refine tp 23 ?_;(try simp only [acts])
      refine tp 24 ?_;(try simp only [acts])
      refine tp 25 ?_;(try simp only [acts])
      refine tp 26 ?_;(try simp only [acts])
      refine tp 27 ?_;(try simp only [acts])
      refine tp 28 ?_;(try simp only [acts])
      refine tp 29 ?_;(try simp only [acts])
      refine tp 30 ?_;(try simp only [acts])
      refine tp 31 ?_;(try simp only [acts])
      refine tp 32 ?_;(try simp only [acts])
      refine tp 33 ?_;(try simp only [acts])
      refine tp 34 ?_;(try simp only [acts])
      refine tp 35 ?_;(try simp only [acts])
      refine tv 36 (.agg (Stamp.cells a)) (fun W hSW=> run_val_load rfl rfl (run_load_arr aggStamp rfl hSW.2)) ?_;(try simp only [acts])
      refine tp 37 ?_;(try simp only [acts])
      refine tp 38 ?_;(try simp only [acts])
      refine tp 39 ?_;(try simp only [acts])
      refine tv 40 (.agg (Stamp.cells a)) (fun W hSW=> run_val_load rfl rfl (run_load_arr aggStamp rfl hSW.1)) ?_;(try simp only [acts])
      refine tp 41 ?_;(try simp only [acts])
      refine tp 42 ?_;(try simp only [acts])
      refine tp 43 ?_;(try simp only [acts])
      refine doneL (by kernel_rfl) (NoPanic.normal ?_) _
      clear hS
      repeat' (first|go_values|go_skip|go_guarded|(with_reducible refine wg ?_)|go_step|go_upon)
      exact ⟨⟨i + 1,by omega,by go_num,hU HB.out.drew⟩,by simp [intOf];omega⟩
  · have hj1:decide ((i:Int)<(n:Int))=false:=by simp;omega
    by_cases he0:e=0
    · have hz:((e:Int)==0)=true:=by simp [he0]
      repeat' (first|go_values|go_skip|go_guarded|(with_reducible refine wg ?_)|go_step|go_upon)
      go_ret
      exact gives_of rfl HB.out
    · have hz:((e:Int)==0)=false:=by simp;omega
      obtain ⟨a,hx⟩:∃ a,l[d]? =some a:=⟨_,List.getElem?_eq_getElem (by have:=HNL.out;omega)⟩
      have hx1:(l.drop d)[0]? =some a:=by rw [List.getElem?_drop];exact hx
      obtain ⟨g2,o2,rfl,_,q2⟩:=(HV.out Wn HB.out).2.elem.2.2.2 0 a hx1
      have f0:Wn.cell? ⟨g2,o2,none⟩=some (.int .u64 a.at_):=by have h:=q2 Wn (Below.refl _ _) 0 (.int .u64 a.at_) rfl;simpa using h
      have hgt:decide (now<a.at_)=true:=decide_eq_true ((HAT.out d a (Nat.le_refl _) hx).2 rfl)
      have he1:(0:Int)<(e:Int):=by omega
      have he2:0<e:=by omega
      clear q2 hx hx1
      repeat' (first|go_values|go_skip|go_guarded|(with_reducible refine wg ?_)|go_step|go_upon)
      go_ret
      exact gives_of rfl HB.out
end Kn
end Go.Proofs.YtbhecddpnpkdpaaGreatDoor
namespace Go.Proofs.YtbhecddpnpkdpaaGreatDoor.lawDedParts
open Go.ChangeShapes Go.WideShapes Go.ChangeAt Go.RowKit
theorem contract (H:Type) (enc:TypeId × Value→H) (W:World) (base:Nat) (args:Array Value) (ds gs:List (DataW H)) (before:List MemPlace)
 (hval:∀ (j:Nat) t v,Tryz.f10.params[j]? =some t→args[j]? =some v→Value.okWide Tryz.prog W .any base t v)
 (hW:DataW.Whole enc Tryz.prog Tryz.f10.params.toList Rows.dedPartsSpec.vars false W args.toList ds gs before) (hL:laidMetH Tryz.prog Rows.dedPartsRow.laid W)
 (hr:(DataW.weightsEach Tryz.prog (Tryz.f10.params.toList ++ (OpenSpec.ofChange Rows.dedPartsSpec).bare.plain.varTypes Tryz.prog) (ds ++ gs)).all (· ≤reachBytes)=true):
 Calls Tryz.prog 10 args W fun e W'=> ∃ v,e=.returned v∧Rows.dedPartsSpec.post enc Tryz.prog Tryz.f10 false true false false W args v W':=by
 have hW':=hW
 obtain ⟨p,q,hA0,hV,rfl,hfz,hnd⟩:=hW
 have hA:DataW.TrodAll enc Tryz.prog W 0 (fun _=> true) true Tryz.f10.params.toList args.toList ds p:=hA0
 rw [Tryz.params10] at hA hval
 obtain ⟨v0,v1,d0,d1,p0,p1,rfl,rfl,rfl,h0,h1⟩:=trodAll_two hA
 obtain ⟨rfl,rfl⟩:=trodVars_none hV
 obtain ⟨l,hl,hwl⟩:=Kn.open_stamps (hval 0 71 v0 rfl rfl) h0
 obtain ⟨n,rfl,rfl,rfl,wn⟩:=open_int Tryz.underlying43 (hval 1 43 v1 rfl rfl) h1
 obtain ⟨n0,n1⟩:=Kn.u64_b wn
 refine (Kn.LDedParts v0 l n W hl n0 n1 (tab_of hL)).mono fun e W' ⟨he,hb⟩=> ?_
 subst he
 exact ⟨_,rfl,law_post (tb:=4) hW' rfl rfl rfl rfl (by kernel_rfl) Tryz.underlying4 laid_outB (by rw [Tryz.params10];decide +kernel) hb⟩
abbrev zeros:Array Value:=#[.slice none 0 0,.int .u64 0]
theorem laid_met (os:Os):laidMet Tryz.prog Rows.dedPartsRow.laid ((laidWorld os).forCall (fun _ _=> 0) ⟨#[],zeros,[]⟩).memory:=
 laidMet_of_run' 8 (by kernel_rfl) (by kernel_rfl)
theorem reads (os:Os) {H:Type} (enc:TypeId × Value→H):∃ places,DataW.whole enc Tryz.prog ((laidWorld os).forCall (fun _ _=> 0) ⟨#[],zeros,[]⟩).memory Tryz.f10.params.toList Rows.dedPartsSpec.vars false zeros.toList 8=some ([.nil,.lit (.int .u64 0)],[],places):=
 ⟨[],by kernel_rfl⟩
theorem lifted (os:Os) (started:os.Started) (H:Type) (enc:TypeId × Value→H) (F:Stop.Interp):
 ReturnsInHanded {} Tryz.checked os 10 .any ((OpenSpec.ofChange Rows.dedPartsSpec).preRow enc Tryz.prog Tryz.f10 Rows.dedPartsRow.domain false Rows.dedPartsRow.laid) (((OpenSpec.ofChange Rows.dedPartsSpec).at F).post enc Tryz.prog Tryz.f10 false true false false):=by
 obtain ⟨places,hx⟩:=reads os enc
 refine returnsInHanded_of_row (C:=Tryz.checked) (s:=OpenSpec.ofChange Rows.dedPartsSpec) own started (by kernel_rfl) Tryz.func10
  (witness_row_at (enc:=enc) (C:=Tryz.checked) false (laidWorld os) zeros rfl (by kernel_rfl) (by kernel_rfl) (by kernel_rfl)
    (OpenSpec.preRow_of_cond 8 hx (by kernel_rfl) (fun k hk=> by cases hk) (by kernel_rfl) (laid_met os))) ?_
 intro W base args ds gs before hval hW _ hcond hr hL _ _
 exact contract H enc W base args ds gs before hval hW hL hr
theorem said:Rows.DedPartsSaid:=
 OpenClaim.holds_of_cond 10 Tryz.f10 rfl rfl rfl rfl rfl rfl rfl ⟨rfl,rfl,rfl,rfl,rfl⟩ rfl rfl rfl rfl rfl (by kernel_rfl) Tryz.func10 (by kernel_rfl)
  (of_decide_eq_true (by kernel_rfl)) (by unfold Func.isWrapper;first|(rw [if_pos (by decide +kernel)];kernel_rfl)|(rw [if_neg (by decide +kernel)];exact ⟨rfl,rfl⟩))
  (fun os started H enc _ F=> by rw [OpenClaim.pre_eq_preRow];exact lifted os started H enc F)
theorem plain (f:FuncId) (fn:Func) (hf:Tryz.pinned.checked.prog.funcNamed "transom/transomlaw17.DedParts" =some f) (hfn:Tryz.pinned.checked.prog.funcs[f]? =some fn):
 false=Tryz.pinned.checked.prog.looks []∧∀ (j:Nat) t,fn.params[j]? =some t→Tryz.pinned.checked.prog.wantsStandIn t=false:=by
 obtain rfl:f=10:=Option.some.inj ((show Tryz.prog.funcNamed "transom/transomlaw17.DedParts" =some 10 by kernel_rfl).symm.trans hf)|>.symm
 obtain rfl:fn=Tryz.f10:=(Option.some.inj (Tryz.func10.symm.trans hfn)).symm
 refine ⟨looks_off,fun j t ht=> ?_⟩
 have hm:=Array.mem_of_getElem? ht
 rw [Tryz.params10] at hm
 have hall:∀ t ∈ (#[71,43]:Array TypeId),Tryz.prog.wantsStandIn t=false:=by decide +kernel
 exact hall t hm
theorem card:Rows.DedPartsCardSaid:=
 Claim7.holds_tied_plain_at .later [] _ _ _ _ said (fun _ h=> by cases h) (by kernel_rfl) (fun _ h=> by cases h) dedParts_row_tie rfl ⟨rfl,rfl⟩ (by kernel_rfl) rfl plain (by kernel_rfl)
#print axioms card
end Go.Proofs.YtbhecddpnpkdpaaGreatDoor.lawDedParts
namespace Go.Proofs.YtbhecddpnpkdpaaGreatDoor
open Go.RowKit KR RegT3
namespace Kn
theorem evBeg_refl (a:List Ev):evBeg a a=true:=(evBeg_iff a a).2 ⟨[],(List.append_nil a).symm⟩
theorem evBeg_trans {a b c:List Ev} (h:evBeg a b=true) (g:evBeg b c=true):evBeg a c=true:=by
 obtain ⟨r,rfl⟩:=(evBeg_iff a b).1 h
 obtain ⟨q,rfl⟩:=(evBeg_iff _ c).1 g
 exact (evBeg_iff _ _).2 ⟨r ++ q,List.append_assoc ..⟩
theorem evBeg_both (a b:List Ev):(evBeg a b && evBeg b a)=evsEq a b:=by
 cases h:evBeg a b && evBeg b a with
 |true=>
  rw [Bool.and_eq_true] at h
  obtain ⟨r,hr⟩:=(evBeg_iff a b).1 h.1
  obtain ⟨q,hq⟩:=(evBeg_iff b a).1 h.2
  have h1:=congrArg List.length hr
  have h2:=congrArg List.length hq
  rw [List.length_append] at h1 h2
  have h3:r=[]:=List.eq_nil_of_length_eq_zero (by omega)
  exact ((evsEq_iff a b).2 (by rw [hr,h3,List.append_nil])).symm
 |false=>
  cases g:evsEq a b with
  |false=> rfl
  |true=>
   rw [(evsEq_iff a b).1 g,evBeg_refl] at h
   exact h.symm
theorem LDedBegins (va vb vc:Value) (a b c:List Ev) (w:World) (ha:Rd 4 Ev.cells w va a) (hb:Rd 4 Ev.cells w vb b) (hc:Rd 4 Ev.cells w vc c) (hT:Tab w):
 Calls Tryz.prog 11 #[va,vb,vc] w (Gives (.bool true) w):=by
 have HRA:=hU (fun W (h:Below w.heap.size w W)=> ha.below h)
 have HRB:=hU (fun W (h:Below w.heap.size w W)=> hb.below h)
 have HRC:=hU (fun W (h:Below w.heap.size w W)=> hc.below h)
 have HT:=hU (fun W (h:Below w.heap.size w W)=> hT.below h)
 have HB:Hid (Below w.heap.size w w):=hU (Below.refl _ _)
 have HE:=hU (evBeg_both a b)
 have HTR:=hU (fun (h:evBeg a b=true) (g:evBeg b c=true)=> evBeg_trans h g)
 clear ha hb hc hT
 go_enter Tryz.func11,Tryz.ntmps11
 repeat' (first|go_values|go_skip|go_guarded|(with_reducible refine wg ?_)|go_step|go_upon)
 refine (LShownD _ (HT.out _ HB.out)).mono ?_
 rintro er Wn ⟨rfl,hb⟩
 replace HB:=nW hb HB
 clear hb
 dsimp only
 repeat' (first|go_values|go_skip|go_guarded|(with_reducible refine wg ?_)|go_step|go_upon)
 refine (SBegins va va a a _ (HRA.out _ HB.out) (HRA.out _ HB.out)).mono ?_
 rintro er Wn ⟨rfl,hb⟩
 replace HB:=nW hb HB
 clear hb
 dsimp only
 rw [evBeg_refl a]
 repeat' (first|go_values|go_skip|go_guarded|(with_reducible refine wg ?_)|go_step|go_upon)
 refine (SBegins va vb a b _ (HRA.out _ HB.out) (HRB.out _ HB.out)).mono ?_
 rintro er Wn ⟨rfl,hb⟩
 replace HB:=nW hb HB
 clear hb
 dsimp only
 cases hp:evBeg a b
 · rw [hp] at HE
   repeat' (first|go_values|go_skip|go_guarded|(with_reducible refine wg ?_)|go_step|go_upon)
   refine (SameEvF va vb a b _ (HRA.out _ HB.out) (HRB.out _ HB.out)).mono ?_
   rintro er Wn ⟨rfl,hb⟩
   replace HB:=nW hb HB
   clear hb
   dsimp only
   repeat' (first|go_values|go_skip|go_guarded|(with_reducible refine wg ?_)|go_step|go_upon)
   refine (SBegins va vb a b _ (HRA.out _ HB.out) (HRB.out _ HB.out)).mono ?_
   rintro er Wn ⟨rfl,hb⟩
   replace HB:=nW hb HB
   clear hb
   dsimp only
   rw [hp]
   have he:evsEq a b=false:=HE.out.symm
   repeat' (first|go_values|go_skip|go_guarded|(with_reducible refine wg ?_)|go_step|go_upon)
   go_ret
   exact gives_of (by simp [he]) HB.out
 · rw [hp] at HE
   repeat' (first|go_values|go_skip|go_guarded|(with_reducible refine wg ?_)|go_step|go_upon)
   refine (SBegins vb vc b c _ (HRB.out _ HB.out) (HRC.out _ HB.out)).mono ?_
   rintro er Wn ⟨rfl,hb⟩
   replace HB:=nW hb HB
   clear hb
   dsimp only
   cases hq:evBeg b c
   · repeat' (first|go_values|go_skip|go_guarded|(with_reducible refine wg ?_)|go_step|go_upon)
     refine (SameEvF va vb a b _ (HRA.out _ HB.out) (HRB.out _ HB.out)).mono ?_
     rintro er Wn ⟨rfl,hb⟩
     replace HB:=nW hb HB
     clear hb
     dsimp only
     repeat' (first|go_values|go_skip|go_guarded|(with_reducible refine wg ?_)|go_step|go_upon)
     refine (SBegins va vb a b _ (HRA.out _ HB.out) (HRB.out _ HB.out)).mono ?_
     rintro er Wn ⟨rfl,hb⟩
     replace HB:=nW hb HB
     clear hb
     dsimp only
     rw [hp]
     repeat' (first|go_values|go_skip|go_guarded|(with_reducible refine wg ?_)|go_step|go_upon)
     refine (SBegins vb va b a _ (HRB.out _ HB.out) (HRA.out _ HB.out)).mono ?_
     rintro er Wn ⟨rfl,hb⟩
     replace HB:=nW hb HB
     clear hb
     dsimp only
     have he:evsEq a b=evBeg b a:=HE.out.symm
     repeat' (first|go_values|go_skip|go_guarded|(with_reducible refine wg ?_)|go_step|go_upon)
     go_ret
     exact gives_of (by simp [he]) HB.out
   · repeat' (first|go_values|go_skip|go_guarded|(with_reducible refine wg ?_)|go_step|go_upon)
     refine (SBegins va vc a c _ (HRA.out _ HB.out) (HRC.out _ HB.out)).mono ?_
     rintro er Wn ⟨rfl,hb⟩
     replace HB:=nW hb HB
     clear hb
     dsimp only
     rw [HTR.out hp hq]
     repeat' (first|go_values|go_skip|go_guarded|(with_reducible refine wg ?_)|go_step|go_upon)
     refine (SameEvF va vb a b _ (HRA.out _ HB.out) (HRB.out _ HB.out)).mono ?_
     rintro er Wn ⟨rfl,hb⟩
     replace HB:=nW hb HB
     clear hb
     dsimp only
     repeat' (first|go_values|go_skip|go_guarded|(with_reducible refine wg ?_)|go_step|go_upon)
     refine (SBegins va vb a b _ (HRA.out _ HB.out) (HRB.out _ HB.out)).mono ?_
     rintro er Wn ⟨rfl,hb⟩
     replace HB:=nW hb HB
     clear hb
     dsimp only
     rw [hp]
     repeat' (first|go_values|go_skip|go_guarded|(with_reducible refine wg ?_)|go_step|go_upon)
     refine (SBegins vb va b a _ (HRB.out _ HB.out) (HRA.out _ HB.out)).mono ?_
     rintro er Wn ⟨rfl,hb⟩
     replace HB:=nW hb HB
     clear hb
     dsimp only
     have he:evsEq a b=evBeg b a:=HE.out.symm
     repeat' (first|go_values|go_skip|go_guarded|(with_reducible refine wg ?_)|go_step|go_upon)
     go_ret
     exact gives_of (by simp [he]) HB.out
end Kn
end Go.Proofs.YtbhecddpnpkdpaaGreatDoor
namespace Go.Proofs.YtbhecddpnpkdpaaGreatDoor.lawDedBegins
open Go.ChangeShapes Go.WideShapes Go.ChangeAt Go.RowKit
theorem contract (H:Type) (enc:TypeId × Value→H) (W:World) (base:Nat) (args:Array Value) (ds gs:List (DataW H)) (before:List MemPlace)
 (hval:∀ (j:Nat) t v,Tryz.f11.params[j]? =some t→args[j]? =some v→Value.okWide Tryz.prog W .any base t v)
 (hW:DataW.Whole enc Tryz.prog Tryz.f11.params.toList Rows.dedBeginsSpec.vars false W args.toList ds gs before) (hL:laidMetH Tryz.prog Rows.dedBeginsRow.laid W)
 (hr:(DataW.weightsEach Tryz.prog (Tryz.f11.params.toList ++ (OpenSpec.ofChange Rows.dedBeginsSpec).bare.plain.varTypes Tryz.prog) (ds ++ gs)).all (· ≤reachBytes)=true):
 Calls Tryz.prog 11 args W fun e W'=> ∃ v,e=.returned v∧Rows.dedBeginsSpec.post enc Tryz.prog Tryz.f11 false true false false W args v W':=by
 have hW':=hW
 obtain ⟨p,q,hA0,hV,rfl,hfz,hnd⟩:=hW
 have hA:DataW.TrodAll enc Tryz.prog W 0 (fun _=> true) true Tryz.f11.params.toList args.toList ds p:=hA0
 rw [Tryz.params11] at hA hval
 obtain ⟨v0,v1,v2,d0,d1,d2,p0,p1,p2,rfl,rfl,rfl,h0,h1,h2⟩:=trodAll_three hA
 obtain ⟨rfl,rfl⟩:=trodVars_none hV
 obtain ⟨a,ha⟩:=Kn.open_events (hval 0 45 v0 rfl rfl) h0
 obtain ⟨b,hb⟩:=Kn.open_events (hval 1 45 v1 rfl rfl) h1
 obtain ⟨c,hc⟩:=Kn.open_events (hval 2 45 v2 rfl rfl) h2
 refine (Kn.LDedBegins v0 v1 v2 a b c W ha hb hc (tab_of hL)).mono fun e W' ⟨he,hb⟩=> ?_
 subst he
 exact ⟨_,rfl,law_post (tb:=4) hW' rfl rfl rfl rfl (by kernel_rfl) Tryz.underlying4 laid_outB (by rw [Tryz.params11];decide +kernel) hb⟩
abbrev zeros:Array Value:=#[.slice none 0 0,.slice none 0 0,.slice none 0 0]
theorem laid_met (os:Os):laidMet Tryz.prog Rows.dedBeginsRow.laid ((laidWorld os).forCall (fun _ _=> 0) ⟨#[],zeros,[]⟩).memory:=
 laidMet_of_run' 8 (by kernel_rfl) (by kernel_rfl)
theorem reads (os:Os) {H:Type} (enc:TypeId × Value→H):∃ places,DataW.whole enc Tryz.prog ((laidWorld os).forCall (fun _ _=> 0) ⟨#[],zeros,[]⟩).memory Tryz.f11.params.toList Rows.dedBeginsSpec.vars false zeros.toList 8=some ([.nil,.nil,.nil],[],places):=
 ⟨[],by kernel_rfl⟩
theorem lifted (os:Os) (started:os.Started) (H:Type) (enc:TypeId × Value→H) (F:Stop.Interp):
 ReturnsInHanded {} Tryz.checked os 11 .any ((OpenSpec.ofChange Rows.dedBeginsSpec).preRow enc Tryz.prog Tryz.f11 Rows.dedBeginsRow.domain false Rows.dedBeginsRow.laid) (((OpenSpec.ofChange Rows.dedBeginsSpec).at F).post enc Tryz.prog Tryz.f11 false true false false):=by
 obtain ⟨places,hx⟩:=reads os enc
 refine returnsInHanded_of_row (C:=Tryz.checked) (s:=OpenSpec.ofChange Rows.dedBeginsSpec) own started (by kernel_rfl) Tryz.func11
  (witness_row_at (enc:=enc) (C:=Tryz.checked) false (laidWorld os) zeros rfl (by kernel_rfl) (by kernel_rfl) (by kernel_rfl)
    (OpenSpec.preRow_of_cond 8 hx (by kernel_rfl) (fun k hk=> by cases hk) (by kernel_rfl) (laid_met os))) ?_
 intro W base args ds gs before hval hW _ hcond hr hL _ _
 exact contract H enc W base args ds gs before hval hW hL hr
theorem said:Rows.DedBeginsSaid:=
 OpenClaim.holds_of_cond 11 Tryz.f11 rfl rfl rfl rfl rfl rfl rfl ⟨rfl,rfl,rfl,rfl,rfl⟩ rfl rfl rfl rfl rfl (by kernel_rfl) Tryz.func11 (by kernel_rfl)
  (of_decide_eq_true (by kernel_rfl)) (by unfold Func.isWrapper;first|(rw [if_pos (by decide +kernel)];kernel_rfl)|(rw [if_neg (by decide +kernel)];exact ⟨rfl,rfl⟩))
  (fun os started H enc _ F=> by rw [OpenClaim.pre_eq_preRow];exact lifted os started H enc F)
theorem plain (f:FuncId) (fn:Func) (hf:Tryz.pinned.checked.prog.funcNamed "transom/transomlaw17.DedBegins" =some f) (hfn:Tryz.pinned.checked.prog.funcs[f]? =some fn):
 false=Tryz.pinned.checked.prog.looks []∧∀ (j:Nat) t,fn.params[j]? =some t→Tryz.pinned.checked.prog.wantsStandIn t=false:=by
 obtain rfl:f=11:=Option.some.inj ((show Tryz.prog.funcNamed "transom/transomlaw17.DedBegins" =some 11 by kernel_rfl).symm.trans hf)|>.symm
 obtain rfl:fn=Tryz.f11:=(Option.some.inj (Tryz.func11.symm.trans hfn)).symm
 refine ⟨looks_off,fun j t ht=> ?_⟩
 have hm:=Array.mem_of_getElem? ht
 rw [Tryz.params11] at hm
 have hall:∀ t ∈ (#[45,45,45]:Array TypeId),Tryz.prog.wantsStandIn t=false:=by decide +kernel
 exact hall t hm
theorem card:Rows.DedBeginsCardSaid:=
 Claim7.holds_tied_plain_at .later [] _ _ _ _ said (fun _ h=> by cases h) (by kernel_rfl) (fun _ h=> by cases h) dedBegins_row_tie rfl ⟨rfl,rfl⟩ (by kernel_rfl) rfl plain (by kernel_rfl)
#print axioms card
end Go.Proofs.YtbhecddpnpkdpaaGreatDoor.lawDedBegins
