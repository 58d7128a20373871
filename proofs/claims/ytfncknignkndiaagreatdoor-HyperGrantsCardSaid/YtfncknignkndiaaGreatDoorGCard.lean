/- A plan that comes in as an argument: its rows, as they lie in memory. Conditions: as told. -/
import Derived.Test.YtfncknignkndiaaGreatDoorProg
import Derived.Deep.Slices
import Derived.Lib.SmallJoins
import Derived.Test.YtfncknignkndiaaGreatDoorRows
import Derived.SizedLaws
import Derived.Test.YtfncknignkndiaaGreatDoorCards
import Derived.Test.YtfncknignkndiaaGreatDoorTie
import Derived.Deep.DeepHandedRow
import Derived.Lib.LaidTab
import Derived.Test.YtfncknignkndiaaGreatDoorGHy
set_option linter.unusedVariables false
set_option maxRecDepth 100000
set_option maxHeartbeats 8000000
set_option linter.unusedSimpArgs false
namespace Go.Proofs.YtfncknignkndiaaGreatDoor
open Go.Proofs.Tryz
open Go.ChangeShapes Go.WideShapes Go.ChangeAt Go.RowKit Go.Joins Go.Deep
theorem tX {w:World} {a:Addr} {v:Value} (h:w.cell? a=some v):a.block<w.heap.size:=by
 rcases Nat.lt_or_ge a.block w.heap.size with h'|h'
 · exact h'
 · simp [World.cell?,Array.getElem?_eq_none h'] at h
theorem qAr {x:Int} (h:(Lit.int .i64 x).wf=true): -9223372036854775808≤x∧x≤9223372036854775807:=by
 have hmin:IntKind.i64.min= -9223372036854775808:=rfl;have hmax:IntKind.i64.max=9223372036854775807:=rfl;simp only [Lit.wf,Bool.and_eq_true,decide_eq_true_eq] at h;omega
section
variable {H:Type} {enc:TypeId × Value→H} {w:World} {base b:Nat} {sp:Nat→Bool} {hd:Bool} {r:Reach}
def qCe (sz:Nat) (cs:List Value):Prop:=∃ r:List Int,∀ j,j<sz→cs[j]? =some (.int .i64 (Pl.g r j))
theorem xI {ts e:TypeId} {sz:Nat} {fuel:Nat} {cs:List Value} {x:DataW H × List MemPlace} (ht:prog.underlying ts=some (.slice e)) (hC:prog.cellsOf e=sz) (hsz:0<sz)
 (hrow:∀ n cs y,cs.length=sz→DataW.trod enc prog w b sp hd n e cs=some y→qCe sz cs) (h:DataW.trod enc prog w b sp hd fuel ts cs=some x):∃ v l,cs=[v]∧iG w sz v l:=by
 rcases open_slice ht h with ⟨rfl,_⟩|⟨a,len,cap,m,n,D,P',rfl,_,hl,hm,hmm,_,hi⟩
 · exact ⟨_,[],rfl,none,0,rfl,by simp,.inl rfl⟩
 · have hmax:Go.maxLen=9223372036854775807:=rfl;have hlm:len≤m:=by rw [hmm];split <;> omega
   have hall:∀ i,i<len→∃ r:List Int,∀ j,j<sz→w.cell? (a.add (i * sz + j))=some (.int .i64 (Pl.g r j)):=fun i hil=> by
    obtain ⟨cs',hc,ht'⟩:=hi i (by omega);obtain ⟨_,hlen,hat⟩:=World.cells?_some hc;rw [hC] at hlen hat;obtain ⟨r,hr⟩:=hrow _ _ _ hlen ht';exact ⟨r,fun j hj=> by rw [← add_add,hat j hj,hr j hj]⟩
   obtain ⟨f,hf⟩:=choose_lt hall;by_cases h0:len=0
   · subst h0;exact ⟨_,[],rfl,some a,cap,rfl,by simp,.inl rfl⟩
   · have hc0:=hf 0 (by omega) 0 hsz;obtain ⟨b',off,spot⟩:=a;have hspot:spot=none:=by simpa [Addr.add] using World.cell?_spot hc0
     subst hspot;refine ⟨_,(List.range len).map f,rfl,_,cap,by rw [List.length_map,List.length_range],by rw [List.length_map,List.length_range];omega,.inr ⟨b',off,rfl,?_,fun i j hi hj=> ?_⟩⟩
     · have:=tX hc0
       simpa [Addr.add] using this
     · rw [List.length_map,List.length_range] at hi
       have hadd:(⟨b',off,none⟩:Addr).add (i * sz + j)=⟨b',off + i * sz + j,none⟩:=by
        unfold Addr.add;split
        · rename_i hz;simp only [Addr.mk.injEq,and_true,true_and];omega
        · simp only [Addr.mk.injEq,and_true,true_and];omega
       have:=hf i hi j hj
       rw [hadd] at this;rw [this,List.getD_eq_getElem?_getD,List.getElem?_map,List.getElem?_range hi];rfl
theorem fI {fuel:Nat} {c:Value} {x:DataW H × List MemPlace} (h:DataW.trod enc prog w b sp hd fuel 3 [c]=some x):∃ n,c=.int .i64 n∧(Lit.int .i64 n).wf=true:=by
 obtain ⟨n,hc,_,hw⟩:=DataW.trod_int underlying3 h;injection hc with hc
 exact ⟨n,hc,hw⟩
theorem gF:prog.cellsOf 3=1:=by kernel_rfl
theorem qLd:prog.cellsOf 74=3:=by kernel_rfl
theorem qGs (n:Nat) (cs:List Value) (y:DataW H × List MemPlace) (hlen:cs.length=4) (h:DataW.trod enc prog w b sp hd n 76 cs=some y):qCe 4 cs:=by
 match cs,hlen with
 |[c0,c1,c2,c3],_=>
  obtain ⟨xs,n,_,_,_,hl,hg⟩:=DataW.trod_struct underlying76 h;have g0:DataW.trod enc prog w b sp hd n 3 (([c0,c1,c2,c3].drop 0).take (prog.cellsOf 3))=xs[0]? :=hg 0 _ rfl;have g1:DataW.trod enc prog w b sp hd n 74 (([c0,c1,c2,c3].drop 1).take (prog.cellsOf 74))=xs[1]? :=hg 1 _ rfl;have hx:xs.length=2:=hl;rw [List.getElem?_eq_getElem (by omega),gF] at g0;rw [List.getElem?_eq_getElem (by omega),qLd] at g1;obtain ⟨ys,m,_,_,_,hyl,hy⟩:=DataW.trod_array underlying74 g1
  have y:∀ i,(hi:i<3)→DataW.trod enc prog w b sp hd m 3 ((([c1,c2,c3].drop (i * 1)).take 1))=some (ys[i]'(by omega)):=fun i hi=> by
   have:=hy i hi
   rw [List.getElem?_eq_getElem (by omega),gF] at this;exact this
  obtain ⟨r0,rfl,_⟩:=fI g0;obtain ⟨r1,rfl,_⟩:=fI (y 0 (by omega));obtain ⟨r2,rfl,_⟩:=fI (y 1 (by omega));obtain ⟨r3,rfl,_⟩:=fI (y 2 (by omega));refine ⟨[r0,r1,r2,r3],fun j hj=> ?_⟩;match j,hj with
  |0,_=> rfl
  |1,_=> rfl
  |2,_=> rfl
  |3,_=> rfl
theorem qTh (n:Nat) (cs:List Value) (y:DataW H × List MemPlace) (hlen:cs.length=3) (h:DataW.trod enc prog w b sp hd n 96 cs=some y):qCe 3 cs:=by
 match cs,hlen with
 |[c0,c1,c2],_=>
  obtain ⟨xs,n,_,_,_,hl,hg⟩:=DataW.trod_struct underlying96 h;have g0:DataW.trod enc prog w b sp hd n 3 (([c0,c1,c2].drop 0).take (prog.cellsOf 3))=xs[0]? :=hg 0 _ rfl;have g1:DataW.trod enc prog w b sp hd n 3 (([c0,c1,c2].drop 1).take (prog.cellsOf 3))=xs[1]? :=hg 1 _ rfl;have g2:DataW.trod enc prog w b sp hd n 3 (([c0,c1,c2].drop 2).take (prog.cellsOf 3))=xs[2]? :=hg 2 _ rfl;have hx:xs.length=3:=hl;rw [List.getElem?_eq_getElem (by omega),gF] at g0;rw [List.getElem?_eq_getElem (by omega),gF] at g1;rw [List.getElem?_eq_getElem (by omega),gF] at g2;obtain ⟨r0,rfl,_⟩:=fI g0;obtain ⟨r1,rfl,_⟩:=fI g1;obtain ⟨r2,rfl,_⟩:=fI g2;refine ⟨[r0,r1,r2],fun j hj=> ?_⟩;match j,hj with
  |0,_=> rfl
  |1,_=> rfl
  |2,_=> rfl
theorem qGr (n:Nat) (cs:List Value) (y:DataW H × List MemPlace) (hlen:cs.length=5) (h:DataW.trod enc prog w b sp hd n 102 cs=some y):qCe 5 cs:=by
 match cs,hlen with
 |[c0,c1,c2,c3,c4],_=>
  obtain ⟨xs,n,_,_,_,hl,hg⟩:=DataW.trod_struct underlying102 h;have g0:DataW.trod enc prog w b sp hd n 3 (([c0,c1,c2,c3,c4].drop 0).take (prog.cellsOf 3))=xs[0]? :=hg 0 _ rfl;have g1:DataW.trod enc prog w b sp hd n 3 (([c0,c1,c2,c3,c4].drop 1).take (prog.cellsOf 3))=xs[1]? :=hg 1 _ rfl;have g2:DataW.trod enc prog w b sp hd n 3 (([c0,c1,c2,c3,c4].drop 2).take (prog.cellsOf 3))=xs[2]? :=hg 2 _ rfl;have g3:DataW.trod enc prog w b sp hd n 3 (([c0,c1,c2,c3,c4].drop 3).take (prog.cellsOf 3))=xs[3]? :=hg 3 _ rfl;have g4:DataW.trod enc prog w b sp hd n 3 (([c0,c1,c2,c3,c4].drop 4).take (prog.cellsOf 3))=xs[4]? :=hg 4 _ rfl;have hx:xs.length=5:=hl;rw [List.getElem?_eq_getElem (by omega),gF] at g0;rw [List.getElem?_eq_getElem (by omega),gF] at g1;rw [List.getElem?_eq_getElem (by omega),gF] at g2;rw [List.getElem?_eq_getElem (by omega),gF] at g3;rw [List.getElem?_eq_getElem (by omega),gF] at g4;obtain ⟨r0,rfl,_⟩:=fI g0;obtain ⟨r1,rfl,_⟩:=fI g1;obtain ⟨r2,rfl,_⟩:=fI g2;obtain ⟨r3,rfl,_⟩:=fI g3;obtain ⟨r4,rfl,_⟩:=fI g4;refine ⟨[r0,r1,r2,r3,r4],fun j hj=> ?_⟩;match j,hj with
  |0,_=> rfl
  |1,_=> rfl
  |2,_=> rfl
  |3,_=> rfl
  |4,_=> rfl
theorem qAk:prog.cellsOf 76=4:=by kernel_rfl
theorem qLg:prog.cellsOf 96=3:=by kernel_rfl
theorem sV:prog.cellsOf 102=5:=by kernel_rfl
theorem qHl:prog.cellsOf 97=1:=by kernel_rfl
theorem qCz {fuel:Nat} {cs:List Value} {x:DataW H × List MemPlace} (h:DataW.trod enc prog w b sp hd fuel 51 cs=some x):∃ v ws,cs=[v]∧nF w v ws:=by
 rcases open_slice1 underlying51 qHl h with ⟨rfl,_⟩|⟨a,len,cap,m,n,V,D,P',rfl,_,hl,hm,hmm,_,hi⟩
 · exact ⟨_,[],rfl,none,0,rfl,by simp,.inl rfl⟩
 · have hmax:Go.maxLen=9223372036854775807:=rfl;have hlm:len≤m:=by rw [hmm];split <;> omega
   have hall:∀ i,i<len→∃ l:List (List Int),w.cell? (a.add i)=some (V i)∧iG w 3 (V i) l:=fun i hil=> by
    obtain ⟨hc,ht'⟩:=hi i (by omega);obtain ⟨v,l,hv,hl⟩:=xI underlying97 qLg (by omega) qTh ht';injection hv with hv
    exact ⟨l,hc,hv ▸ hl⟩
   obtain ⟨f,hf⟩:=choose_lt hall;by_cases h0:len=0
   · subst h0;exact ⟨_,[],rfl,some a,cap,rfl,by simp,.inl rfl⟩
   · have hc0:=(hf 0 (by omega)).1;obtain ⟨b',off,spot⟩:=a;have hspot:spot=none:=by simpa [Addr.add] using World.cell?_spot hc0
     subst hspot;refine ⟨_,(List.range len).map f,rfl,_,cap,by rw [List.length_map,List.length_range],by rw [List.length_map,List.length_range];omega,.inr ⟨b',off,rfl,?_,fun i hi=> ?_⟩⟩
     · have:=tX hc0
       simpa [Addr.add] using this
     · rw [List.length_map,List.length_range] at hi
       have hadd:(⟨b',off,none⟩:Addr).add i=⟨b',off + i,none⟩:=by
        unfold Addr.add;split
        · rename_i hz;simp only [Addr.mk.injEq,and_true,true_and];omega
        · simp only [Addr.mk.injEq,and_true,true_and]
       have hfi:=hf i hi;rw [hadd] at hfi;refine ⟨V i,hfi.1,?_⟩;rw [List.getD_eq_getElem?_getD,List.getElem?_map,List.getElem?_range hi];exact hfi.2
theorem qAl:prog.cellsOf 53=4:=by kernel_rfl
theorem qYg {v:Value} {d:DataW H} {p:List MemPlace} (hv:Value.okWide prog w r base 53 v) (h:DataW.Trod enc prog w b sp hd 53 v d p):
 ∃ P:Pl.fH,jX w v P∧P.fr≤9223372036854775807:=by
 obtain ⟨c0,c1,c2,c3,y0,y1,y2,y3,n,rfl,_,_,h0,h1,h2,h3⟩:=open_agg4 underlying53 (by kernel_rfl) qAl hv h;obtain ⟨v0,ps,hv0,hps⟩:=xI underlying50 qAk (by omega) qGs h0;obtain ⟨fr,rfl,hw⟩:=fI h1;obtain ⟨v2,ws,hv2,hws⟩:=qCz h2;obtain ⟨v3,cs,hv3,hcs⟩:=xI underlying36 sV (by omega) qGr h3;injection hv0 with hv0
 injection hv2 with hv2
 injection hv3 with hv3
 subst hv0 hv2 hv3;exact ⟨⟨ps,fr,ws,cs⟩,⟨_,_,_,rfl,hps,hws,hcs⟩,(qAr hw).2⟩
end
end Go.Proofs.YtfncknignkndiaaGreatDoor
namespace Go.Proofs.YtfncknignkndiaaGreatDoor
open Go.Proofs.Tryz
open Go.ChangeShapes Go.WideShapes Go.ChangeAt Go.RowKit Go.Joins Go.Deep KR
namespace Kn
theorem tX {w:World} {a:Addr} {v:Value} (h:w.cell? a=some v):a.block<w.heap.size:=by
 rcases Nat.lt_or_ge a.block w.heap.size with h'|h'
 · exact h'
 · simp [World.cell?,Array.getElem?_eq_none h'] at h
section
variable {H:Type} {enc:TypeId × Value→H} {w:World} {base b:Nat} {sp:Nat→Bool} {hd:Bool} {r:Reach} {α:Type}
theorem qMg {fuel:Nat} {c:Value} {x:DataW H × List MemPlace} (h:DataW.trod enc prog w b sp hd fuel 9 [c]=some x):∃ s:ByteArray,c=.string s∧x=(.lit (.string s.data.toList),[]):=by
 obtain ⟨s,hc,hx,_⟩:=DataW.trod_string underlying9 h;injection hc with hc
 exact ⟨s,hc,hx⟩
theorem qZ {e:TypeId} {d:DataW H}:∀ {l:List (DataW H)},d ∈ l→∀ n ∈ d.weights prog e,n ∈ DataW.weightsAll prog e l
 |[],h,_,_=> nomatch h
 |a::l,h,n,hn=> by
  simp only [DataW.weightsAll,List.mem_append];rcases List.mem_cons.1 h with rfl|h
  · exact .inl hn
  · exact .inr (qZ h n hn)
theorem qKd [Inhabited α] {ts e:TypeId} {sz:Nat} {f:α→Array Value} {Q:α→DataW H→Prop} {fuel:Nat} {cs:List Value} {x:DataW H × List MemPlace} (ht:prog.underlying ts=some (.slice e)) (hC:prog.cellsOf e=sz) (hsz:0<sz) (hf:∀ x,(f x).size=sz)
 (hrow:∀ n cs y,cs.length=sz→DataW.trod enc prog w b sp hd n e cs=some y→∃ x,cs=(f x).toList∧Q x y.1) (h:DataW.trod enc prog w b sp hd fuel ts cs=some x):
 ∃ v l,cs=[v]∧Rd sz f w v l∧∀ y ∈ l,∃ d,Q y d∧∀ n ∈ d.weights prog e,n ∈ x.1.weights prog ts:=by
 rcases open_slice ht h with ⟨rfl,_⟩|⟨a,len,cap,m,n,D,P',rfl,_,hl,hm,hmm,hx,hi⟩
 · exact ⟨_,[],rfl,Rd.nil,fun y hy=> nomatch hy⟩
 · have hmax:Go.maxLen=9223372036854775807:=rfl;have hlm:len≤m:=by rw [hmm];split <;> omega
   have hall:∀ i,i<len→∃ x:α,(∀ j u,(f x)[j]? =some u→w.cell? (a.add (i * sz + j))=some u)∧Q x (D i):=fun i hil=> by
    obtain ⟨cs',hc,ht'⟩:=hi i (by omega);obtain ⟨_,hlen,hat⟩:=World.cells?_some hc;rw [hC] at hlen hat;obtain ⟨x,hx,hq⟩:=hrow _ _ _ hlen ht';refine ⟨x,fun j u hj=> ?_,hq⟩;have hjs:j<sz:=by have:=(Array.getElem?_eq_some_iff.1 hj).1;rwa [hf] at this
    rw [← add_add,hat j hjs,hx];simpa using hj
   obtain ⟨g,hg⟩:=choose_lt hall
   have hQ:∀ y ∈ (List.range len).map g,∃ d,Q y d∧∀ n ∈ d.weights prog e,n ∈ x.1.weights prog ts:=by
    intro y hy;obtain ⟨i,hi',rfl⟩:=List.mem_map.1 hy;have hil:=List.mem_range.1 hi';refine ⟨D i,(hg i hil).2,fun n hn=> ?_⟩;rw [hx];simp only [DataW.weights,ht,List.mem_cons,List.mem_append];exact .inr (.inl (qZ (List.mem_map.2 ⟨i,hi',rfl⟩) n hn))
   by_cases h0:len=0
   · subst h0;exact ⟨_,[],rfl,⟨some a,cap,rfl,hl,hm,.inl rfl⟩,fun y hy=> nomatch hy⟩
   · have hu0:(f (g 0))[0]? =some ((f (g 0))[0]'(by rw [hf];exact hsz)):=Array.getElem?_eq_getElem _;have hc0:=(hg 0 (by omega)).1 0 _ hu0;obtain ⟨b',off,spot⟩:=a;have hspot:spot=none:=by simpa [Addr.add] using World.cell?_spot hc0
     subst hspot;refine ⟨_,(List.range len).map g,rfl,⟨_,cap,by rw [List.length_map,List.length_range],by rw [List.length_map,List.length_range];exact hl,hm,.inr ⟨b',off,rfl,?_,fun i x hx j u hj=> ?_⟩⟩,hQ⟩
     · have:=tX hc0
       rw [oL] at this;exact this
     · have hil:i<len:=by have:=(List.getElem?_eq_some_iff.1 hx).1;simpa using this
       rw [List.getElem?_map,List.getElem?_range hil] at hx;obtain rfl:=Option.some.inj hx;have:=(hg i hil).1 j u hj
       rw [oL] at this;rw [Nat.add_assoc];exact this
theorem qLe:prog.cellsOf 9=1:=by kernel_rfl
theorem gF:prog.cellsOf 3=1:=by kernel_rfl
theorem sV:prog.cellsOf 102=5:=by kernel_rfl
theorem qHk:prog.cellsOf 22=1:=by kernel_rfl
theorem qUh:prog.cellsOf 36=1:=by kernel_rfl
instance:Inhabited ByteArray:=⟨ByteArray.empty⟩
instance:Inhabited cS:=⟨⟨0,0,0,0,0⟩⟩
theorem open_strs {fuel:Nat} {cs:List Value} {x:DataW H × List MemPlace} (h:DataW.trod enc prog w b sp hd fuel 22 cs=some x):∃ v l,cs=[v]∧Rd 1 strCells w v l:=by
 obtain ⟨v,l,h1,h2,_⟩:=qKd (Q:=fun _ _=> True) underlying22 qLe (by decide) qKp (fun n cs y hl h=> by
  match cs,hl with
  |[c],_=>
   obtain ⟨s,rfl,_⟩:=qMg h;exact ⟨s,rfl,trivial⟩) h
 exact ⟨v,l,h1,h2⟩
end
end Kn
end Go.Proofs.YtfncknignkndiaaGreatDoor
namespace Go.Proofs.YtfncknignkndiaaGreatDoor
open Go.Proofs.Tryz
open Go.ChangeShapes Go.WideShapes Go.ChangeAt Go.RowKit
theorem law_post {H:Type} {enc:TypeId × Value→H} {P:Program} {f:Func} {s:ChangeSpec} {apart fresh handsOn again:Bool} {W W':World} {args:Array Value} {ds:List (DataW H)} {before:List MemPlace} {tb:TypeId}
 (hW:DataW.Whole enc P f.params.toList s.vars apart W args.toList ds [] before)
 (hv:s.vars=[]) (hres:(s.fn H (ds ++ [])).results=[.lit (.bool true)]) (hargs:(s.fn H (ds ++ [])).args=ds) (hvs:(s.fn H (ds ++ [])).vars=[])
 (hrt:f.resultTypes=#[tb]) (hb:P.underlying tb=some .bool) (hl:laidOutB P=true) (hr:∀ t ∈ f.params.toList,P.readableRec t=true∧t<P.types.size)
 (hbel:Below W.heap.size W W'):s.post enc P f apart fresh handsOn again W args (.bool true) W':=by
 have hW':=hW;obtain ⟨p,q,hA,hV,rfl,hfz,hnd⟩:=hW;rw [hv] at hV;obtain ⟨_,rfl⟩:=trodVars_none hV;have hlt:∀ x ∈ p,x.block<W.heap.size:=fun x hx=> hW'.lt x (by simpa using hx);refine qBx (pa:=p) (pv:=[]) hW' ?_ ?_ ?_ rfl hbel ?_
 · intro b sp hd;rw [hres,hrt];exact trodAll_mk1 (shut_bool hb true)
 · intro sp hsp;rw [hargs];exact qCb hl hbel hr hA hlt sp (fun x hx=> hsp x (by simpa using hx))
 · intro sp _;rw [hvs,hv];rfl
 · exact ok_one hrt rfl (okWide_bool_mk hb true)
theorem own:ownKnob prog.godebug=none:=by kernel_rfl
theorem gTab:prog.globalNamed "transom/isa.uses" =some 0:=by kernel_rfl
theorem gTabType:(prog.globals[0]?).map (·.type)=some 318:=by kernel_rfl
theorem qLf:prog.cellsOf 318=25:=by kernel_rfl
theorem xAo {W:World} (h:laidMetH prog [("transom/isa.uses",Rows.laid_transom_isa_uses)] W):Tab W:=fun k hk=> by
 have t:Lib.TabIs prog W "transom/isa.uses" .i64 Cp.tbl:=Lib.tabIs_of_head (rest:=[]) gTab gTabType underlying318 underlying3 Kn.gF qLf h
 exact t.cell gTab k hk
noncomputable def laidWorld (os:Os):World:=
 {World.holding prog os ⟨#[],#[],[]⟩ with heap:=(World.holding prog os ⟨#[],#[],[]⟩).heap.modify 0 fun
  | .cells _ t frozen=> .cells (Cp.tbl.map (Value.int .i64)).toArray t frozen
  |o=> o}
theorem qYe:false=Tryz.pinned.checked.prog.looks []:=by kernel_rfl
theorem qYd:laidOutB prog=true:=by kernel_rfl
end Go.Proofs.YtfncknignkndiaaGreatDoor
namespace Go.Proofs.YtfncknignkndiaaGreatDoor
open Go.Proofs.Tryz
open Go.ChangeShapes Go.WideShapes Go.ChangeAt Go.RowKit Go.Joins Go.Deep KR Kn
namespace Hy
section
variable {H:Type} {enc:TypeId × Value→H} {w:World} {base b:Nat} {sp:Nat→Bool} {hd:Bool} {r:Reach}
def uN (sz:Nat) (x:List Int):Array Value:=((List.range sz).map fun j=> Value.int .i64 (Pl.g x j)).toArray
theorem qUq (sz:Nat) (x:List Int):(uN sz x).size=sz:=by simp [uN]
theorem qPy {sz:Nat} {x:List Int} {j:Nat} (h:j<sz):(uN sz x)[j]? =some (.int .i64 (Pl.g x j)):=by
 unfold uN;rw [List.getElem?_toArray,List.getElem?_map,List.getElem?_range h];rfl
theorem rowIs {sz:Nat} {cs:List Value} (hl:cs.length=sz) (h:qCe sz cs):∃ x:List Int,cs=(uN sz x).toList:=by
 obtain ⟨x,hx⟩:=h;refine ⟨x,List.ext_getElem? fun j=> ?_⟩;by_cases hj:j<sz
 · rw [hx j hj,Array.getElem?_toList,qPy hj]
 · rw [List.getElem?_eq_none (by omega),List.getElem?_eq_none (by rw [Array.length_toList,qUq];omega)]
theorem qCy {ts e:TypeId} {sz fuel:Nat} {cs:List Value} {x:DataW H × List MemPlace} (ht:prog.underlying ts=some (.slice e)) (hC:prog.cellsOf e=sz) (hsz:0<sz)
 (hrow:∀ n cs y,cs.length=sz→DataW.trod enc prog w b sp hd n e cs=some y→qCe sz cs) (h:DataW.trod enc prog w b sp hd fuel ts cs=some x):∃ v l,cs=[v]∧Rd sz (uN sz) w v l:=by
 obtain ⟨v,l,h1,h2,_⟩:=qKd (f:=uN sz) (Q:=fun _ _=> True) ht hC hsz (qUq sz) (fun n cs y hl h=> by
  obtain ⟨x,hx⟩:=rowIs hl (hrow n cs y hl h);exact ⟨x,hx,trivial⟩) h
 exact ⟨v,l,h1,h2⟩
theorem qAb {sz:Nat} {v:Value} {l:List (List Int)} (h:Rd sz (uN sz) w v l):iG w sz v l:=by
 obtain ⟨a,c,rfl,h1,h2,h⟩:=h;refine ⟨a,c,rfl,by omega,?_⟩;rcases h with h|⟨b,off,rfl,hb,hc⟩
 · exact .inl h
 · refine .inr ⟨b,off,rfl,hb,fun i j hi hj=> ?_⟩;rw [List.getD_eq_getElem?_getD,List.getElem?_eq_getElem hi];exact hc i _ (List.getElem?_eq_getElem hi) j _ (qPy hj)
theorem qPw {α β:Type} {sz:Nat} {f:α→Array Value} {g:β→Array Value} {v:Value} {l:List α} (h:Rd sz f w v l) (k:α→β) (hk:∀ x,g (k x)=f x):Rd sz g w v (l.map k):=by
 obtain ⟨a,c,rfl,h1,h2,h⟩:=h;refine ⟨a,c,by rw [List.length_map],by rw [List.length_map];exact h1,h2,?_⟩;rcases h with rfl|⟨b,off,rfl,hb,hc⟩
 · exact .inl rfl
 · refine .inr ⟨b,off,rfl,hb,fun i x hx j u hj=> ?_⟩;rw [List.getElem?_map] at hx;obtain ⟨y,hy,rfl⟩:=Option.map_eq_some_iff.1 hx;rw [hk] at hj;exact hc i y hy j u hj
theorem qEn {vp vw vc:Value} {P:Pl.fH} (hp:Rd 4 (uN 4) w vp P.ps) (hw:nF w vw P.ws) (hc:Rd 5 (uN 5) w vc P.cs):iF w vp vw vc P:=
 ⟨⟨_,_,_,rfl,qAb hp,hw,qAb hc⟩,qPw hc chanOf fun _=> rfl,qPw hp partOf fun _=> rfl⟩
theorem qIh {fuel:Nat} {c0 c1 c2 c3:Value} {x:DataW H × List MemPlace} (h:DataW.trod enc prog w b sp hd fuel 53 [c0,c1,c2,c3]=some x):
 ∃ P:Pl.fH,c1=.int .i64 P.fr∧iF w c0 c2 c3 P∧P.fr≤9223372036854775807:=by
 obtain ⟨xs,n,_,_,_,hl,hge⟩:=DataW.trod_struct underlying53 h;have hx:xs.length=4:=hl;have g0:DataW.trod enc prog w b sp hd n 50 (([c0,c1,c2,c3].drop 0).take (prog.cellsOf 50))=xs[0]? :=hge 0 _ rfl;rw [List.getElem?_eq_getElem (by omega),(show prog.cellsOf 50=1 by kernel_rfl)] at g0;have h0:DataW.trod enc prog w b sp hd n 50 [c0]=some (xs[0]'(by omega)):=g0;have g1:DataW.trod enc prog w b sp hd n 3 (([c0,c1,c2,c3].drop 1).take (prog.cellsOf 3))=xs[1]? :=hge 1 _ rfl;rw [List.getElem?_eq_getElem (by omega),(show prog.cellsOf 3=1 by kernel_rfl)] at g1;have h1:DataW.trod enc prog w b sp hd n 3 [c1]=some (xs[1]'(by omega)):=g1;have g2:DataW.trod enc prog w b sp hd n 51 (([c0,c1,c2,c3].drop 2).take (prog.cellsOf 51))=xs[2]? :=hge 2 _ rfl;rw [List.getElem?_eq_getElem (by omega),(show prog.cellsOf 51=1 by kernel_rfl)] at g2;have h2:DataW.trod enc prog w b sp hd n 51 [c2]=some (xs[2]'(by omega)):=g2;have g3:DataW.trod enc prog w b sp hd n 36 (([c0,c1,c2,c3].drop 3).take (prog.cellsOf 36))=xs[3]? :=hge 3 _ rfl;rw [List.getElem?_eq_getElem (by omega),(show prog.cellsOf 36=1 by kernel_rfl)] at g3;have h3:DataW.trod enc prog w b sp hd n 36 [c3]=some (xs[3]'(by omega)):=g3;obtain ⟨v0,ps,hv0,hps⟩:=qCy underlying50 qAk (by omega) qGs h0;obtain ⟨fr,rfl,hw⟩:=fI h1;obtain ⟨v2,ws,hv2,hws⟩:=qCz h2;obtain ⟨v3,cs,hv3,hcs⟩:=qCy underlying36 sV (by omega) qGr h3;injection hv0 with hv0
 injection hv2 with hv2
 injection hv3 with hv3
 subst hv0 hv2 hv3;exact ⟨⟨ps,fr,ws,cs⟩,rfl,qEn hps hws hcs,(qAr hw).2⟩
theorem qXd {v:Value} {d:DataW H} {p:List MemPlace} (hv:Value.okWide prog w r base 53 v) (h:DataW.Trod enc prog w b sp hd 53 v d p):
 ∃ vp vw vc P,v=.agg (eV vp vw vc P.fr)∧iF w vp vw vc P∧P.fr≤9223372036854775807:=by
 obtain ⟨cs,rfl,hsz⟩:=okWide_struct underlying53 hv;rw [qAl] at hsz;obtain ⟨fuel,hf⟩:=h;obtain ⟨l0⟩:=cs;match l0,hsz with
 |[c0,c1,c2,c3],_=>
  obtain ⟨P,rfl,hp,hfr⟩:=qIh hf;exact ⟨_,_,_,P,rfl,hp,hfr⟩
theorem qGk {fuel:Nat} {v:Value} {x:DataW H × List MemPlace} {l:List ByteArray} (hr:Rd 1 strCells w v l) (h:DataW.trod enc prog w b sp hd fuel 22 [v]=some x):l=[]∨∃ m,l.length≤m∧m * 16 ∈ x.1.weights prog 22:=by
 obtain ⟨a1,c1,rfl,_,_⟩:=hr.shape;rcases open_slice underlying22 h with ⟨he,_⟩|⟨a',len',cap',m,n,D,P',he,_,hl,hm,hmm,hx,hi⟩
 · injection he with he _
   injection he with _ he _
   exact .inl (List.eq_nil_of_length_eq_zero he)
 · injection he with he _
   injection he with _ he _
   refine .inr ⟨((List.range len').map D).length + ((List.range (m - len')).map fun j=> D (len' + j)).length,by simp;omega,?_⟩;have hb:prog.bytesOf 9=16:=by kernel_rfl
   rw [hx];unfold DataW.weights;rw [underlying22];dsimp only;rw [hb];exact List.mem_cons_self ..
theorem qEl {fuel:Nat} {c:Value} {x:DataW H × List MemPlace} (h':DataW.trod enc prog w b sp hd fuel 54 [c]=some x):
 ∃ l,tP w c l∧∀ y ∈ l,y=[]∨∃ m,y.length≤m∧m * 16 ∈ x.1.weights prog 54:=by
 rcases open_slice1 underlying54 qHk h' with ⟨he,_⟩|⟨a,len,cap,m,n,V,D,P',he,_,hl,hm,hmm,hx,hi⟩
 · injection he with he _
   exact ⟨[],⟨none,0,he,Nat.le_refl _,by omega,.inl rfl⟩,fun y hy=> nomatch hy⟩
 · injection he with he _
   rw [he];have hmax:Go.maxLen=9223372036854775807:=rfl;have hlm:len≤m:=by rw [hmm];split <;> omega
   have hall:∀ i,i<len→∃ l:List ByteArray,w.cell? (a.add i)=some (V i)∧Rd 1 strCells w (V i) l∧(l=[]∨∃ m,l.length≤m∧m * 16 ∈ (D i).weights prog 22):=fun i hil=> by
    obtain ⟨hc,ht'⟩:=hi i (by omega);obtain ⟨v,l,hv,hl⟩:=open_strs ht';injection hv with hv
    exact ⟨l,hc,hv ▸ hl,qGk (hv ▸ hl) ht'⟩
   obtain ⟨f,hf⟩:=choose_lt hall
   have hQ:∀ y ∈ (List.range len).map f,y=[]∨∃ m,y.length≤m∧m * 16 ∈ x.1.weights prog 54:=by
    intro y hy;obtain ⟨i,hi',rfl⟩:=List.mem_map.1 hy;have hil:=List.mem_range.1 hi';rcases (hf i hil).2.2 with h|⟨k,h1,h2⟩
    · exact .inl h
    · refine .inr ⟨k,h1,?_⟩;subst hx;simp only [DataW.weights,underlying54,List.mem_cons,List.mem_append];exact .inr (.inl (qZ (List.mem_map.2 ⟨i,hi',rfl⟩) _ h2))
   by_cases h0:len=0
   · subst h0;exact ⟨[],⟨some a,cap,rfl,hl,hm,.inl rfl⟩,fun y hy=> nomatch hy⟩
   · have hc0:=(hf 0 (by omega)).1;obtain ⟨b',off,spot⟩:=a;have hspot:spot=none:=by simpa [Addr.add] using World.cell?_spot hc0
     subst hspot;refine ⟨(List.range len).map f,⟨_,cap,by rw [List.length_map,List.length_range],by rw [List.length_map,List.length_range];exact hl,hm,.inr ⟨b',off,rfl,?_,fun i x hx=> ?_⟩⟩,hQ⟩
     · have:=Kn.tX hc0
       rw [oL] at this;exact this
     · have hil:i<len:=by have:=(List.getElem?_eq_some_iff.1 hx).1;simpa using this
       rw [List.getElem?_map,List.getElem?_range hil] at hx;obtain rfl:=Option.some.inj hx;have hfi:=hf i hil;refine ⟨V i,?_,hfi.2.1⟩;have:=hfi.1
       rw [oL] at this;exact this
theorem qUm {v:Value} {d:DataW H} {p:List MemPlace} (hv:Value.okWide prog w r base 54 v) (h:DataW.Trod enc prog w b sp hd 54 v d p):
 ∃ l,tP w v l∧∀ y ∈ l,y=[]∨∃ m,y.length≤m∧m * 16 ∈ d.weights prog 54:=by
 obtain ⟨a0,len0,cap0,rfl⟩:=okWide_slice underlying54 hv;obtain ⟨fuel,h⟩:=h;exact qEl (x:=(d,p)) h
theorem qYc {T:TypeId} {ts:List TypeId} {ds:List (DataW H)} {j:Nat} {d:DataW H} {l:List (List ByteArray)} (hr:(DataW.weightsEach prog ts ds).all (· ≤reachBytes)=true) (ht:ts[j]? =some T) (hd:ds[j]? =some d)
 (h:∀ y ∈ l,y=[]∨∃ m,y.length≤m∧m * 16 ∈ d.weights prog T):∀ y ∈ l,y.length≤8796093022207:=by
 intro y hy;rcases h y hy with rfl|⟨m,hm,hw⟩
 · decide
 · have h1:=List.all_eq_true.1 hr _ (DataW.weights_mem_each ht hd _ hw);have h2:m * 16≤reachBytes:=by simpa using h1
   unfold reachBytes at h2;omega
