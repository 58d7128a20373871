/- transomref15's Outs and Ins: a partition's channels; top's own: a partition's images. Conditions: as told. -/
import Derived.Test.YtfncknignkndiaaGreatDoorGTs
set_option linter.unusedVariables false
set_option maxRecDepth 100000
set_option maxHeartbeats 8000000
set_option linter.unusedSimpArgs false
namespace Go.Proofs.YtfncknignkndiaaGreatDoor
open Go.Proofs.Tryz
open Go.RowKit KR Kn
namespace Hy
theorem one_rdC {W:World} {n:Nat} {a:cS} (h:W.heap[n]? =some (.cells (cS.cells a) 102 (0,0))):Rd 5 cS.cells W (.slice (some ⟨n,0,none⟩) 1 1) [a]:=
 ⟨_,1,rfl,Nat.le_refl _,(show 1≤9223372036854775807 by decide),.inr ⟨n,0,rfl,hlt h,fun i x hx j u hj=> by
   match i,hx with
   |0,hx=>
    obtain rfl:=Option.some.inj hx;rw [aC h];simpa using hj⟩⟩
theorem dOC {B:Nat} {W W':World} {v:Value} {l:List cS} (hb:Below W.heap.size W W') (h:Hid (KR.Own 102 5 cS.cells B W v l)):Hid (KR.Own 102 5 cS.cells B W' v l):=hU (cY h.out hb)
theorem outsOf_hit {i:Int} {l:List cS} {k:Nat} {c:cS} (h:l[k]? =some c) (hn:c.src=i):oG (l.take (k + 1)) i=oG (l.take k) i ++ [c]:=by
 unfold oG;rw [List.take_add_one,h,Option.toList_some,List.filter_append];simp [hn]
theorem outsOf_miss {i:Int} {l:List cS} {k:Nat} {c:cS} (h:l[k]? =some c) (hn:¬ c.src=i):oG (l.take (k + 1)) i=oG (l.take k) i:=by
 unfold oG;rw [List.take_add_one,h,Option.toList_some,List.filter_append];simp [hn]
def ROutsR (w:World) (cs:List cS) (p:Int) (lv iv:Value) (W:World):Prop:=∃ i:Nat,i≤cs.length∧iv=.int .i64 i∧Hid (KR.Own 102 5 cS.cells w.heap.size W lv (oG (cs.take i) p))∧Hid (Below w.heap.size w W)
theorem R15Outs (vp vw vc:Value) (fr p:Int) (cs:List cS) (w:World) (hc:Rd 5 cS.cells w vc cs) (hn:cs.length≤1000000):
 Calls prog 22 #[.agg #[vp,.int .i64 fr,vw,vc],.int .i64 p] w (fun e w'=> ∃ v,e=.returned v∧Rd 5 cS.cells w' v (oG cs p)∧Below w.heap.size w w'):=by
 obtain ⟨a,c,rfl,hcl,hcm⟩:=hc.shape;obtain ⟨Wn,hW0,hb0,HP⟩:=nb1 (W:=w) (.cells #[vp,.int .i64 fr,vw,.slice a cs.length c] 53) rfl;have HB:=hU hb0;have HM:=hU (fun W (h:Below w.heap.size w W)=> hc.below h);clear hb0 hc;go_in;repeat' (first|(rw [hW0];clear hW0)|go_values|go_skip|go_guarded|refine wg ?_|go_step|go_upon)
 have hbz:=HB.out.size;have HR0:Hid (Below Wn.heap.size Wn Wn):=hU (Below.refl _ _);obtain ⟨Wo,rfl⟩:∃ Wo,Wo=Wn:=⟨_,rfl⟩
 go_loopw [5,6] (fun lv iv2 wr=> ROutsR Wo cs p lv iv2 wr) (fun _ iv2 _=> cs.length - (intOf iv2).toNat)
 case atStart=> exact ⟨0,Nat.zero_le _,rfl,hU (KR.Own.nil _ _ _ _ _),HR0⟩
 case round=>
  clear HR0;obtain ⟨i,him,rfl,HL0,HRB⟩:=hrel;obtain ⟨Wn,rfl⟩:∃ Wn,Wn=wr:=⟨_,rfl⟩
  have hbw:=HB.out.trans (HRB.out.mono HB.out.size);replace HP:=nB HRB.out HP;have p3:Wn.cell? ⟨w.heap.size,3,none⟩=some (.slice a cs.length c):=aC HP.out 3;by_cases hil:i<cs.length
  · have hj1:decide ((i:Int)<(cs.length:Int))=true:=by simp [hil]
    have hj1b:decide (i<cs.length)=true:=by simp [hil]
    have hj2:(i:Int)<(cs.length:Int):=by omega
    have hj0:(0:Int)≤(i:Int):=by omega
    obtain ⟨x,hx⟩:∃ x,cs[i]? =some x:=⟨_,List.getElem?_eq_getElem hil⟩
    obtain ⟨gb,off,hma,hgb,hcell0⟩:=(HM.out Wn hbw).elem.2.2.2 i x hx;subst hma;have HCE:=hU (hcell0 Wn (Below.refl _ _));have c0:Wn.cell? ⟨gb,off + i * 5 + 1,none⟩=some (.int .i64 x.src):=HCE.out 1 _ rfl;have HX:=hU hx;clear hcell0 hx hbw;by_cases hna:x.src=p
    · have hd1:(x.src==p)=true:=by simp [hna]
      have htk:=outsOf_hit HX.out hna;obtain ⟨g5,hab,hg5⟩:=nbz HRB;obtain ⟨W1,hW1,hba,H5⟩:=nb1 (W:=Wn) (.cells (cS.cells x) 102) hab;have HO1:=dOC hba HL0;have HR1:=nW hba HRB;have hlf:(oG (cs.take i) p).length≤i:=Nat.le_trans (List.length_filter_le _ _) (by rw [List.length_take];omega);obtain ⟨v2,W2,hrun,hv2,hgr⟩:=xAq (P:=prog) (t:=36) (ty:=36) (bytes:=40) iO (by decide) underlying36 (by kernel_rfl) qPr HO1.out (one_rdC H5.out) HR1.out.size (by rw [List.length_singleton];unfold maxLen;omega) (by rw [List.length_singleton];omega);obtain ⟨htn,hbl⟩:=xAg HO1.out HR1.out.size hgr;have HRUN:=hU hrun;have HO2:Hid (KR.Own 102 5 cS.cells Wo.heap.size W2 v2 (oG (cs.take (i + 1)) p)):=hU (by rw [htk];exact hv2);have HR2:Hid (Below Wo.heap.size Wo W2):=hU (HR1.out.trans hbl);clear htk hba hrun hv2 hgr htn hbl HO1 HR1 HRB HL0 H5 hna hlf
      repeat' (first
       |(refine aE (t:=102) (v:=.agg (cS.cells x)) rfl rfl rfl (cA tR rfl HCE.out) ?_)
       |(refine cZ (v:=.agg (cS.cells x)) rfl _ rfl rfl underlying36 tR.size qQq rfl (by decide) (by decide) rfl ?_;(try simp only [Value.cells]);rw [hab,hW1];clear hab hW1)
       |(at_builtin;refine cV _ rfl _ _ _ _ rfl _ _ rfl rfl _ _ HRUN.out ?_)
       |go_values|go_skip|go_guarded|refine wg ?_|go_step|go_upon)
      exact ⟨⟨i + 1,by omega,by go_num,HO2,HR2⟩,by simp [intOf];omega⟩
    · have hd1:(x.src==p)=false:=by simpa using hna
      have htk:=outsOf_miss HX.out hna;rw [← htk] at HL0;clear htk hna;refine sg ?_;intros;exact ⟨⟨i + 1,by omega,by go_num,HL0,HRB⟩,by simp [intOf];omega⟩
  · have hj1:decide ((i:Int)<(cs.length:Int))=false:=by simp;omega
    have hj1b:decide (i<cs.length)=false:=by simp;omega
    have hie:cs.take i=cs:=List.take_of_length_le (by omega);rw [hie] at HL0;refine sg ?_;intros;go_ret;exact ⟨_,rfl,(HL0.out.sl iO).rd,HB.out.trans (HRB.out.mono HB.out.size)⟩
theorem insOf_hit {i:Int} {l:List cS} {k:Nat} {c:cS} (h:l[k]? =some c) (hn:c.dst=i):lH (l.take (k + 1)) i=lH (l.take k) i ++ [c]:=by
 unfold lH;rw [List.take_add_one,h,Option.toList_some,List.filter_append];simp [hn]
theorem insOf_miss {i:Int} {l:List cS} {k:Nat} {c:cS} (h:l[k]? =some c) (hn:¬ c.dst=i):lH (l.take (k + 1)) i=lH (l.take k) i:=by
 unfold lH;rw [List.take_add_one,h,Option.toList_some,List.filter_append];simp [hn]
def RInsR (w:World) (cs:List cS) (p:Int) (lv iv:Value) (W:World):Prop:=∃ i:Nat,i≤cs.length∧iv=.int .i64 i∧Hid (KR.Own 102 5 cS.cells w.heap.size W lv (lH (cs.take i) p))∧Hid (Below w.heap.size w W)
theorem R15Ins (vp vw vc:Value) (fr p:Int) (cs:List cS) (w:World) (hc:Rd 5 cS.cells w vc cs) (hn:cs.length≤1000000):
 Calls prog 23 #[.agg #[vp,.int .i64 fr,vw,vc],.int .i64 p] w (fun e w'=> ∃ v,e=.returned v∧Rd 5 cS.cells w' v (lH cs p)∧Below w.heap.size w w'):=by
 obtain ⟨a,c,rfl,hcl,hcm⟩:=hc.shape;obtain ⟨Wn,hW0,hb0,HP⟩:=nb1 (W:=w) (.cells #[vp,.int .i64 fr,vw,.slice a cs.length c] 53) rfl;have HB:=hU hb0;have HM:=hU (fun W (h:Below w.heap.size w W)=> hc.below h);clear hb0 hc;go_in;repeat' (first|(rw [hW0];clear hW0)|go_values|go_skip|go_guarded|refine wg ?_|go_step|go_upon)
 have hbz:=HB.out.size;have HR0:Hid (Below Wn.heap.size Wn Wn):=hU (Below.refl _ _);obtain ⟨Wo,rfl⟩:∃ Wo,Wo=Wn:=⟨_,rfl⟩
 go_loopw [5,6] (fun lv iv2 wr=> RInsR Wo cs p lv iv2 wr) (fun _ iv2 _=> cs.length - (intOf iv2).toNat)
 case atStart=> exact ⟨0,Nat.zero_le _,rfl,hU (KR.Own.nil _ _ _ _ _),HR0⟩
 case round=>
  clear HR0;obtain ⟨i,him,rfl,HL0,HRB⟩:=hrel;obtain ⟨Wn,rfl⟩:∃ Wn,Wn=wr:=⟨_,rfl⟩
  have hbw:=HB.out.trans (HRB.out.mono HB.out.size);replace HP:=nB HRB.out HP;have p3:Wn.cell? ⟨w.heap.size,3,none⟩=some (.slice a cs.length c):=aC HP.out 3;by_cases hil:i<cs.length
  · have hj1:decide ((i:Int)<(cs.length:Int))=true:=by simp [hil]
    have hj1b:decide (i<cs.length)=true:=by simp [hil]
    have hj2:(i:Int)<(cs.length:Int):=by omega
    have hj0:(0:Int)≤(i:Int):=by omega
    obtain ⟨x,hx⟩:∃ x,cs[i]? =some x:=⟨_,List.getElem?_eq_getElem hil⟩
    obtain ⟨gb,off,hma,hgb,hcell0⟩:=(HM.out Wn hbw).elem.2.2.2 i x hx;subst hma;have HCE:=hU (hcell0 Wn (Below.refl _ _));have c0:Wn.cell? ⟨gb,off + i * 5 + 2,none⟩=some (.int .i64 x.dst):=HCE.out 2 _ rfl;have HX:=hU hx;clear hcell0 hx hbw;by_cases hna:x.dst=p
    · have hd1:(x.dst==p)=true:=by simp [hna]
      have htk:=insOf_hit HX.out hna;obtain ⟨g5,hab,hg5⟩:=nbz HRB;obtain ⟨W1,hW1,hba,H5⟩:=nb1 (W:=Wn) (.cells (cS.cells x) 102) hab;have HO1:=dOC hba HL0;have HR1:=nW hba HRB;have hlf:(lH (cs.take i) p).length≤i:=Nat.le_trans (List.length_filter_le _ _) (by rw [List.length_take];omega);obtain ⟨v2,W2,hrun,hv2,hgr⟩:=xAq (P:=prog) (t:=36) (ty:=36) (bytes:=40) iO (by decide) underlying36 (by kernel_rfl) qPr HO1.out (one_rdC H5.out) HR1.out.size (by rw [List.length_singleton];unfold maxLen;omega) (by rw [List.length_singleton];omega);obtain ⟨htn,hbl⟩:=xAg HO1.out HR1.out.size hgr;have HRUN:=hU hrun;have HO2:Hid (KR.Own 102 5 cS.cells Wo.heap.size W2 v2 (lH (cs.take (i + 1)) p)):=hU (by rw [htk];exact hv2);have HR2:Hid (Below Wo.heap.size Wo W2):=hU (HR1.out.trans hbl);clear htk hba hrun hv2 hgr htn hbl HO1 HR1 HRB HL0 H5 hna hlf
      repeat' (first
       |(refine aE (t:=102) (v:=.agg (cS.cells x)) rfl rfl rfl (cA tR rfl HCE.out) ?_)
       |(refine cZ (v:=.agg (cS.cells x)) rfl _ rfl rfl underlying36 tR.size qQq rfl (by decide) (by decide) rfl ?_;(try simp only [Value.cells]);rw [hab,hW1];clear hab hW1)
       |(at_builtin;refine cV _ rfl _ _ _ _ rfl _ _ rfl rfl _ _ HRUN.out ?_)
       |go_values|go_skip|go_guarded|refine wg ?_|go_step|go_upon)
      exact ⟨⟨i + 1,by omega,by go_num,HO2,HR2⟩,by simp [intOf];omega⟩
    · have hd1:(x.dst==p)=false:=by simpa using hna
      have htk:=insOf_miss HX.out hna;rw [← htk] at HL0;clear htk hna;refine sg ?_;intros;exact ⟨⟨i + 1,by omega,by go_num,HL0,HRB⟩,by simp [intOf];omega⟩
  · have hj1:decide ((i:Int)<(cs.length:Int))=false:=by simp;omega
    have hj1b:decide (i<cs.length)=false:=by simp;omega
    have hie:cs.take i=cs:=List.take_of_length_le (by omega);rw [hie] at HL0;refine sg ?_;intros;go_ret;exact ⟨_,rfl,(HL0.out.sl iO).rd,HB.out.trans (HRB.out.mono HB.out.size)⟩
theorem TOwn (v:Value) (l:List (List ByteArray)) (p:Int) (w:World) (h:tP w v l) (hp:0≤p):Calls prog 21 #[v,.int .i64 p] w (fun e w'=> ∃ u,e=.returned u∧w'=w∧Rd 1 strCells w u (l.getD p.toNat [])):=by
 obtain ⟨a,c,rfl,hlc,hmax,hh⟩:=h;obtain ⟨i,rfl⟩:∃ i:Nat,p=i:=⟨p.toNat,by omega⟩
 have HH:=hU hh;clear hh;have e0:decide ((i:Int)<0)=false:=by simp
 have i0:(0:Int)≤(i:Int):=by omega
 by_cases hil:i<l.length
 · have e1:decide ((l.length:Int)≤(i:Int))=false:=by simp;omega
   have e2:decide (i<l.length)=true:=by simp;omega
   have e3:(i:Int)<(l.length:Int):=by omega
   obtain ⟨r,hr⟩:∃ r,l[i]? =some r:=⟨_,List.getElem?_eq_getElem hil⟩
   rcases HH.out with rfl|⟨b,off,rfl,hb,hc⟩
   · simp at hil
   · obtain ⟨u,hu,hur⟩:=hc i r hr;have HU:=hU hur;clear hc hur;go_in;refine sg ?_;intros;go_ret;refine ⟨_,rfl,rfl,?_⟩;rw [Int.toNat_natCast,List.getD_eq_getElem?_getD,hr];exact HU.out
 · have e1:decide ((l.length:Int)≤(i:Int))=true:=by simp;omega
   go_in;refine sg ?_;intros;go_ret;refine ⟨_,rfl,rfl,?_⟩;rw [Int.toNat_natCast,List.getD_eq_getElem?_getD,List.getElem?_eq_none (by omega)];exact Rd.nil
end Hy
end Go.Proofs.YtfncknignkndiaaGreatDoor
namespace Go.Proofs.YtfncknignkndiaaGreatDoor
open Go.Proofs.Tryz
namespace Kn
theorem sdue_all {now:Int}:∀ {l:List jZ},(∀ a ∈ l,a.at_≤now)→sdue l now=l.length
 |[],_=> rfl
 |a::l,h=> by
  unfold sdue;rw [if_neg (by have:=h a (List.mem_cons_self ..);omega),sdue_all (fun b hb=> h b (List.mem_cons_of_mem _ hb))];rfl
theorem swindow2 (s:dU):fP (fP s)=fP s:=by
 by_cases h:s.st=2
 · unfold fP;rw [if_pos h];exact if_neg (show ¬ (1:Int)=2 by decide)
 · unfold fP;rw [if_neg h,if_neg h]
theorem swindow_arrive (s:dU) (n:Int) (body:ByteArray):fP (fX s n body)=fX (fP s) n body:=by
 unfold fP fX;by_cases h:s.st=2
 · rw [if_pos h,if_pos h]
 · rw [if_neg h,if_neg h]
theorem swindow_one {s:dU} (h:s.st=1):fP s=s:=by
 unfold fP;rw [if_neg (by omega)]
theorem dgo_sub {x:Part}:∀ (n:Nat) (q:Run),∀ a ∈ (dgo x n q).l,a ∈ q.l
 |0,_,_,h=> h
 |n + 1,q,a,h=> by
  rw [dgo_succ] at h;exact dgo_sub n q a (List.mem_of_mem_drop h)
def DedS (g:qNt) (l:List jZ) (s:dU):Prop:=∃ n:Nat,s.k.now=n∧(s=drun g l n∨s=fP (drun g l n))∧∀ a ∈ l,a.at_≤n
theorem DedS.qBp {g:qNt} {l:List jZ} {s:dU} (h:DedS g l s):DedS g l (fP s):=by
 obtain ⟨n,hn,h,ha⟩:=h;refine ⟨n,by rw [swindow_now];exact hn,.inr ?_,ha⟩;rcases h with h|h
 · rw [h]
 · rw [h,swindow2]
theorem DedS.drun_now {g:qNt} {l:List jZ} {s:dU} {n:Nat} (hn:s.k.now=n) (h:s=drun g l n∨s=fP (drun g l n)):(dgo g.x n (dbegin g l)).s.k.now=n:=by
 have h0:(drun g l n).k.now=(dgo g.x n (dbegin g l)).s.k.now:=darr_now _ _;rw [← h0,← hn];rcases h with h|h
 · rw [← h]
 · rw [h,swindow_now]
theorem DedS.all {g:qNt} {l:List jZ} {n:Nat} (hd:(dgo g.x n (dbegin g l)).s.k.now=n) (ha:∀ a ∈ l,a.at_≤n):darrive (dgo g.x n (dbegin g l))=⟨darr (dgo g.x n (dbegin g l)).s (dgo g.x n (dbegin g l)).l,[]⟩:=by
 have hall:sdue (dgo g.x n (dbegin g l)).l (dgo g.x n (dbegin g l)).s.k.now=(dgo g.x n (dbegin g l)).l.length:=sdue_all (fun a h=> by rw [hd];exact ha a (dgo_sub n _ a h));unfold darrive;rw [hall,List.take_length,List.drop_length]
theorem DedS.nP {g:qNt} {l:List jZ} {s:dU} {N:Nat} (hs:iV N s) (hN:N≤1000000) (h1:s.st=1) (h:DedS g l s):DedS g l (cP g.x s):=by
 obtain ⟨n,hn,h,ha⟩:=h;have hd:=DedS.drun_now hn h
 have hw:s=fP (drun g l n):=by
  rcases h with h|h
  · rw [← h,swindow_one h1]
  · exact h
 have key:drun g l (n + 1)=cP g.x (fP (drun g l n)):=by
  have e:=DedS.all hd ha;unfold drun;rw [dgo_succ];unfold dcycle;rw [e];rfl
 refine ⟨n + 1,by rw [qXk hs hN h1,hn];rfl,.inl (by rw [key,← hw]),fun a h=> by have:=ha a h;omega⟩
theorem dgo_late2 {g:qNt} (hg:qNu g) {l late:List jZ} (hl:SmallStamps l) {n:Nat} (h:∀ a ∈ late,(n:Int)≤a.at_):∀ k:Nat,k≤n→l.length + k≤100000→dgo g.x k (dbegin g (l ++ late))=⟨(dgo g.x k (dbegin g l)).s,(dgo g.x k (dbegin g l)).l ++ late⟩
 |0,_,_=> rfl
 |k + 1,hk,hb=> by
  have hq:=dgo_good hg hl k (by omega);rw [dgo_succ,dgo_succ,dgo_late2 hg hl h k (by omega) (by omega)];unfold dcycle;rw [darrive_late (fun a ha=> by have:=h a ha;have:=hq.nw;omega)]
theorem DedS.dI {g:qNt} (hg:qNu g) {l:List jZ} (hl:SmallStamps l) {s:dU} (h:DedS g l s) {x:jZ} (hx:x.at_=s.k.now) (hb:(l.length:Int) + s.k.now≤100000):DedS g (l ++ [x]) (fX s x.port x.body):=by
 obtain ⟨n,hn,h,ha⟩:=h;have hd:=DedS.drun_now hn h;have e:=DedS.all hd ha;have hl2:=dgo_late2 hg hl (late:=[x]) (n:=n) (fun a ha=> by rw [List.mem_singleton.1 ha,hx,hn];exact Int.le_refl _) n (Nat.le_refl _) (by omega)
 have hax:∀ a ∈ l ++ [x],a.at_≤n:=fun a h=> by
  rcases List.mem_append.1 h with h|h
  · exact ha a h
  · rw [List.mem_singleton.1 h,hx,hn];exact Int.le_refl _
 have e2:=DedS.all (l:=l ++ [x]) (n:=n) (by rw [hl2];exact hd) hax
 have key:drun g (l ++ [x]) n=fX (drun g l n) x.port x.body:=by
  unfold drun;rw [e2,e,hl2];show darr _ (_ ++ [x])=_
  unfold darr;rw [List.foldl_append];rfl
 refine ⟨n,(qAh _ _ _ _).trans hn,?_,hax⟩;rw [key];rcases h with h|h
 · exact .inl (by rw [← h])
 · exact .inr (by rw [swindow_arrive,← h])
end Kn
end Go.Proofs.YtfncknignkndiaaGreatDoor
namespace Go.Proofs.YtfncknignkndiaaGreatDoor
open Go.Proofs.Tryz
open Go.RowKit KR Kn
namespace Hy
def DedM (G:Nat→qNt) (m:cX):Prop:=∀ (i:Nat) (s:dU) (l:List jZ),m.seats[i]? =some s→m.arr[i]? =some l→DedS (G i) l s∧SmallStamps l
theorem DedM.set {G:Nat→qNt} {m m':cX} {j:Nat} {t t':dU} (h:DedM G m) (ht:m.seats[j]? =some t) (hs:m'.seats=m.seats.set j t') (ha:m'.arr=m.arr) (hu:∀ l,DedS (G j) l t→DedS (G j) l t'):DedM G m':=fun i s l h1 h2=> by
 rw [hs] at h1;rw [ha] at h2;by_cases hij:j=i
 · subst hij;rw [List.getElem?_set_self (List.getElem?_eq_some_iff.1 ht).1] at h1;obtain rfl:=Option.some.inj h1;exact ⟨hu l (h j t l ht h2).1,(h j t l ht h2).2⟩
 · rw [List.getElem?_set_ne hij] at h1;exact h i s l h1 h2
theorem DedM.same {G:Nat→qNt} {m m':cX} (h:DedM G m) (hs:m'.seats=m.seats) (ha:m'.arr=m.arr):DedM G m':=fun i s l h1 h2=> h i s l (by rw [← hs];exact h1) (by rw [← ha];exact h2)
theorem DedM.win {G:Nat→qNt} {m:cX} (h:DedM G m):DedM G (gA m):=by
 unfold gA;split
 · split
   · next t ht=> exact h.set ht rfl rfl fun l hl=> hl.qBp
   · exact h.same rfl rfl
 · exact h.same rfl rfl
theorem DedM.send {G:Nat→qNt} (hG:∀ i,qNu (G i)) {m:cX} (h:DedM G m) (who:Nat) (o:Out) (hb:o.body.size≤140737488355328) (hn:∀ (i:Nat) (s:dU) (l:List jZ),m.seats[i]? =some s→m.arr[i]? =some l→(l.length:Int) + s.k.now≤100000):DedM G (eL who m o):=by
 unfold eL;split
 · exact h
 · next q j _=>
   split
   · next t a ht ha=>
     intro i s l h1 h2;have h1:(m.seats.set q.toNat (fX t j o.body))[i]? =some s:=h1;have h2:(m.arr.set q.toNat (a ++ [⟨t.k.now,j,o.body⟩]))[i]? =some l:=h2;by_cases hij:q.toNat=i
     · subst hij;rw [List.getElem?_set_self (List.getElem?_eq_some_iff.1 ht).1] at h1;rw [List.getElem?_set_self (List.getElem?_eq_some_iff.1 ha).1] at h2;obtain rfl:=Option.some.inj h1;obtain rfl:=Option.some.inj h2;obtain ⟨g1,g2⟩:=h _ t a ht ha;refine ⟨g1.dI (hG _) g2 (x:=⟨t.k.now,j,o.body⟩) rfl (hn _ t a ht ha),fun b hb'=> ?_⟩;rcases List.mem_append.1 hb' with hb'|hb'
       · exact g2 b hb'
       · rw [List.mem_singleton.1 hb'];exact hb
     · rw [List.getElem?_set_ne hij] at h1 h2;exact h i s l h1 h2
   · exact h
theorem DedM.gZ {G:Nat→qNt} (hG:∀ i,qNu (G i)) {who:Nat}:∀ {l:List Out} {n:Nat} {m:cX},DedM G m→dP n m→uU l→n + l.length≤45000→DedM G (l.foldl (eL who) m)
 |[],_,_,h,_,_,_=> h
 |o::l,n,m,h,hg,hs,hn=> by
  have ho:=hs o (List.mem_cons_self ..);rw [List.length_cons] at hn
  exact DedM.gZ hG (l:=l) (n:=n + 1) (h.send hG who o ho.2.2 (fun i s l h1 h2=> by
   have h3:=hg.ar l (List.mem_of_getElem? h2);have h4:=(hg.sg s (List.mem_of_getElem? h1)).nw;omega)) (hg.send who o ho.2.2) (fun x hx=> hs x (List.mem_cons_of_mem _ hx)) (by omega)
theorem DedM.cyc {G:Nat→qNt} (hG:∀ i,qNu (G i)) {who n:Nat} {s:dU} {m:cX} (h:DedM G m) (hg:dP n m) (hs:m.seats[who]? =some s) (h1:s.st=1) (hp:oZ (partOf (m.p.ps.getD who []))) (hx:(G who).x=partOf (m.p.ps.getD who [])) (hso:uU (cP (partOf (m.p.ps.getD who [])) s).k.sent) (hn:n + 1 + (cP (partOf (m.p.ps.getD who [])) s).k.sent.length≤45000):DedM G (lM who m):=by
 rw [lW hs]
 have e:∀ m':cX,(mC who m').seats=m'.seats∧(mC who m').arr=m'.arr:=fun m'=> by
  unfold mC;split
  · split <;> exact ⟨rfl,rfl⟩
  · exact ⟨rfl,rfl⟩
 have hl:DedM G (jS who s m):=h.set hs rfl rfl fun l hl=> by
  have:=hl.nP (hg.sg s (List.mem_of_getElem? hs)) (by omega) h1
  rwa [hx] at this
 have h2:=hl.gZ hG (who:=who) (hg.jS hs hp (by omega)) hso hn;exact h2.same (e _).1 (e _).2
theorem DedM.step {G:Nat→qNt} (hG:∀ i,qNu (G i)) {n:Nat} {m:cX} (h:DedM G m) (hg:dP n m) (hw:gB m) (hx:∀ i,(G i).x=partOf (m.p.ps.getD i [])) (hn:n + 16≤45000):DedM G (gY m):=by
 have h1:=hg.win;have w1:=hw.win
 have ho:DedM G (oQ m):=by
  unfold oQ;split
  · split
    · next s hs=>
      split
      · next h2=>
        obtain ⟨a,b,c⟩:=qOr (who:=(wAt m.p m.sched m.now).1.toNat) h1 w1 (by omega) s hs h2;have h14:=(qS (x:=partOf ((gA m).p.ps.getD (wAt m.p m.sched m.now).1.toNat [])) (h1.sg s (List.mem_of_getElem? hs)) h2).2.1;exact (h.win.cyc hG h1 hs h2 c.1 (by rw [(qEf m).1];exact hx _) a (by omega)).same rfl rfl
      · exact h.win.same rfl rfl
    · exact h.win
  · exact h.win
 unfold gY qCw;split <;> exact ho.same rfl rfl
theorem DedM.run {G:Nat→qNt} (hG:∀ i,qNu (G i)):∀ {k n:Nat} {m:cX},DedM G m→dP n m→gB m→(∀ i,(G i).x=partOf (m.p.ps.getD i []))→n + 15 * k + 1≤45000→DedM G (jO k m)
 |0,_,_,h,_,_,_,_=> h
 |k + 1,n,m,h,hg,hw,hx,hn=> by
  obtain ⟨h1,h2⟩:=hg.step hw (by omega);exact DedM.run hG (k:=k) (h.step hG hg hw hx (by omega)) h1 h2 (fun i=> by rw [qSr];exact hx i) (by omega)
def guestOf (P:Pl.fH) (l:List (List ByteArray)) (i:Nat):qNt:=⟨partOf (P.ps.getD i []),l.getD i [],oG (fD P) i,lH (fD P) i⟩
theorem guest_ok {P:Pl.fH} {l:List (List ByteArray)} (hc:Pl.check P=0) (hl:∀ r ∈ l,r.length≤8) (i:Nat):qNu (guestOf P l i):=by
 obtain ⟨h1,h2,h3,h4,h5,h6,_⟩:=Pl.cQ hc;have hcs:(fD P).length≤6:=by unfold fD;rw [List.length_map];exact h5
 refine ⟨?_,?_,?_,zZ hc i⟩
 · show (l.getD i []).length≤8
   rw [List.getD_eq_getElem?_getD];cases h:l[i]? with
   |none=> decide
   |some r=> exact hl r (List.mem_of_getElem? h)
 · exact Nat.le_trans (List.length_filter_le _ _) (by omega)
 · exact Nat.le_trans (List.length_filter_le _ _) (by omega)
theorem DedM.begin_ {P:Pl.fH} {l:List (List ByteArray)} (hc:Pl.check P=0) (hl:∀ r ∈ l,r.length≤8):DedM (guestOf P l) (gE P l):=fun i s a h1 h2=> by
 obtain rfl:a=[]:=List.eq_of_mem_replicate (List.mem_of_getElem? (show (List.replicate P.ps.length ([]:List jZ))[i]? =some a from h2));have h1:((List.range P.ps.length).map (fun i=> jP (partOf (P.ps.getD i [])) (l.getD i []) (oG (fD P) i) (lH (fD P) i)))[i]? =some s:=h1;rw [List.getElem?_map] at h1;obtain ⟨j,hj,rfl⟩:=Option.map_eq_some_iff.1 h1;have hi:=(List.getElem?_eq_some_iff.1 hj).1;rw [List.length_range] at hi;rw [List.getElem?_range hi] at hj;obtain rfl:=Option.some.inj hj;have hs:=xZ (guest_ok hc hl i);refine ⟨⟨0,?_,.inl rfl,fun a ha=> by cases ha⟩,fun a ha=> by cases ha⟩;have h0:=hs.k.now0;have h9:=hs.nw;have h8:(jP (guestOf P l i).x (guestOf P l i).images (guestOf P l i).outs (guestOf P l i).ins_).k.now=0:=by omega
 exact h8
end Hy
namespace Kn
theorem DedS.same {g:qNt} {l:List jZ} {s:dU} (h:DedS g l s):∃ n:Nat,s.k.now=n∧(drun g l n).k=s.k∧s.boots=(drun g l n).boots∧((s.st==3)==((drun g l n).st==3))=true:=by
 obtain ⟨n,hn,h,_⟩:=h;refine ⟨n,hn,?_⟩;rcases h with h|h
 · rw [← h];exact ⟨rfl,rfl,by simp⟩
 · obtain ⟨d,hd⟩:∃ d,drun g l n=d:=⟨_,rfl⟩
   rw [h,hd];unfold fP;split
   · next h2=> exact ⟨rfl,rfl,by simp [h2]⟩
   · exact ⟨rfl,rfl,by simp⟩
