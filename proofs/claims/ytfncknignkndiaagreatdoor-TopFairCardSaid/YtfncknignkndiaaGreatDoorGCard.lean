/- A plan that comes in as an argument: its rows, as they lie in memory. Conditions: as told. -/
import Derived.Test.YtfncknignkndiaaGreatDoorProg
import Derived.Deep.Slices
import Derived.Lib.SmallJoins
import Derived.Test.YtfncknignkndiaaGreatDoorRows
import Derived.SizedLaws
import Derived.Test.YtfncknignkndiaaGreatDoorCards
import Derived.Test.YtfncknignkndiaaGreatDoorTie
import Derived.Deep.DeepHandedRow
import Derived.Lib.LaidTab
import Derived.Test.YtfncknignkndiaaGreatDoorGHy
set_option linter.unusedVariables false
set_option maxRecDepth 100000
set_option maxHeartbeats 8000000
set_option linter.unusedSimpArgs false
namespace Go.Proofs.YtfncknignkndiaaGreatDoor
open Go.Proofs.Tryz
open Go.ChangeShapes Go.WideShapes Go.ChangeAt Go.RowKit Go.Joins Go.Deep
theorem tX {w:World} {a:Addr} {v:Value} (h:w.cell? a=some v):a.block<w.heap.size:=by
 rcases Nat.lt_or_ge a.block w.heap.size with h'|h'
 · exact h'
 · simp [World.cell?,Array.getElem?_eq_none h'] at h
theorem qAr {x:Int} (h:(Lit.int .i64 x).wf=true): -9223372036854775808≤x∧x≤9223372036854775807:=by
 have hmin:IntKind.i64.min= -9223372036854775808:=rfl;have hmax:IntKind.i64.max=9223372036854775807:=rfl;simp only [Lit.wf,Bool.and_eq_true,decide_eq_true_eq] at h;omega
section
variable {H:Type} {enc:TypeId × Value→H} {w:World} {base b:Nat} {sp:Nat→Bool} {hd:Bool} {r:Reach}
def qCe (sz:Nat) (cs:List Value):Prop:=∃ r:List Int,∀ j,j<sz→cs[j]? =some (.int .i64 (Pl.g r j))
theorem xI {ts e:TypeId} {sz:Nat} {fuel:Nat} {cs:List Value} {x:DataW H × List MemPlace} (ht:prog.underlying ts=some (.slice e)) (hC:prog.cellsOf e=sz) (hsz:0<sz)
 (hrow:∀ n cs y,cs.length=sz→DataW.trod enc prog w b sp hd n e cs=some y→qCe sz cs) (h:DataW.trod enc prog w b sp hd fuel ts cs=some x):∃ v l,cs=[v]∧iG w sz v l:=by
 rcases open_slice ht h with ⟨rfl,_⟩|⟨a,len,cap,m,n,D,P',rfl,_,hl,hm,hmm,_,hi⟩
 · exact ⟨_,[],rfl,none,0,rfl,by simp,.inl rfl⟩
 · have hmax:Go.maxLen=9223372036854775807:=rfl;have hlm:len≤m:=by rw [hmm];split <;> omega
   have hall:∀ i,i<len→∃ r:List Int,∀ j,j<sz→w.cell? (a.add (i * sz + j))=some (.int .i64 (Pl.g r j)):=fun i hil=> by
    obtain ⟨cs',hc,ht'⟩:=hi i (by omega);obtain ⟨_,hlen,hat⟩:=World.cells?_some hc;rw [hC] at hlen hat;obtain ⟨r,hr⟩:=hrow _ _ _ hlen ht';exact ⟨r,fun j hj=> by rw [← add_add,hat j hj,hr j hj]⟩
   obtain ⟨f,hf⟩:=choose_lt hall;by_cases h0:len=0
   · subst h0;exact ⟨_,[],rfl,some a,cap,rfl,by simp,.inl rfl⟩
   · have hc0:=hf 0 (by omega) 0 hsz;obtain ⟨b',off,spot⟩:=a;have hspot:spot=none:=by simpa [Addr.add] using World.cell?_spot hc0
     subst hspot;refine ⟨_,(List.range len).map f,rfl,_,cap,by rw [List.length_map,List.length_range],by rw [List.length_map,List.length_range];omega,.inr ⟨b',off,rfl,?_,fun i j hi hj=> ?_⟩⟩
     · have:=tX hc0
       simpa [Addr.add] using this
     · rw [List.length_map,List.length_range] at hi
       have hadd:(⟨b',off,none⟩:Addr).add (i * sz + j)=⟨b',off + i * sz + j,none⟩:=by
        unfold Addr.add;split
        · rename_i hz;simp only [Addr.mk.injEq,and_true,true_and];omega
        · simp only [Addr.mk.injEq,and_true,true_and];omega
       have:=hf i hi j hj
       rw [hadd] at this;rw [this,List.getD_eq_getElem?_getD,List.getElem?_map,List.getElem?_range hi];rfl
theorem fI {fuel:Nat} {c:Value} {x:DataW H × List MemPlace} (h:DataW.trod enc prog w b sp hd fuel 3 [c]=some x):∃ n,c=.int .i64 n∧(Lit.int .i64 n).wf=true:=by
 obtain ⟨n,hc,_,hw⟩:=DataW.trod_int underlying3 h;injection hc with hc
 exact ⟨n,hc,hw⟩
theorem gF:prog.cellsOf 3=1:=by kernel_rfl
theorem qLd:prog.cellsOf 74=3:=by kernel_rfl
theorem qGs (n:Nat) (cs:List Value) (y:DataW H × List MemPlace) (hlen:cs.length=4) (h:DataW.trod enc prog w b sp hd n 76 cs=some y):qCe 4 cs:=by
 match cs,hlen with
 |[c0,c1,c2,c3],_=>
  obtain ⟨xs,n,_,_,_,hl,hg⟩:=DataW.trod_struct underlying76 h;have g0:DataW.trod enc prog w b sp hd n 3 (([c0,c1,c2,c3].drop 0).take (prog.cellsOf 3))=xs[0]? :=hg 0 _ rfl;have g1:DataW.trod enc prog w b sp hd n 74 (([c0,c1,c2,c3].drop 1).take (prog.cellsOf 74))=xs[1]? :=hg 1 _ rfl;have hx:xs.length=2:=hl;rw [List.getElem?_eq_getElem (by omega),gF] at g0;rw [List.getElem?_eq_getElem (by omega),qLd] at g1;obtain ⟨ys,m,_,_,_,hyl,hy⟩:=DataW.trod_array underlying74 g1
  have y:∀ i,(hi:i<3)→DataW.trod enc prog w b sp hd m 3 ((([c1,c2,c3].drop (i * 1)).take 1))=some (ys[i]'(by omega)):=fun i hi=> by
   have:=hy i hi
   rw [List.getElem?_eq_getElem (by omega),gF] at this;exact this
  obtain ⟨r0,rfl,_⟩:=fI g0;obtain ⟨r1,rfl,_⟩:=fI (y 0 (by omega));obtain ⟨r2,rfl,_⟩:=fI (y 1 (by omega));obtain ⟨r3,rfl,_⟩:=fI (y 2 (by omega));refine ⟨[r0,r1,r2,r3],fun j hj=> ?_⟩;match j,hj with
  |0,_=> rfl
  |1,_=> rfl
  |2,_=> rfl
  |3,_=> rfl
theorem qTh (n:Nat) (cs:List Value) (y:DataW H × List MemPlace) (hlen:cs.length=3) (h:DataW.trod enc prog w b sp hd n 96 cs=some y):qCe 3 cs:=by
 match cs,hlen with
 |[c0,c1,c2],_=>
  obtain ⟨xs,n,_,_,_,hl,hg⟩:=DataW.trod_struct underlying96 h;have g0:DataW.trod enc prog w b sp hd n 3 (([c0,c1,c2].drop 0).take (prog.cellsOf 3))=xs[0]? :=hg 0 _ rfl;have g1:DataW.trod enc prog w b sp hd n 3 (([c0,c1,c2].drop 1).take (prog.cellsOf 3))=xs[1]? :=hg 1 _ rfl;have g2:DataW.trod enc prog w b sp hd n 3 (([c0,c1,c2].drop 2).take (prog.cellsOf 3))=xs[2]? :=hg 2 _ rfl;have hx:xs.length=3:=hl;rw [List.getElem?_eq_getElem (by omega),gF] at g0;rw [List.getElem?_eq_getElem (by omega),gF] at g1;rw [List.getElem?_eq_getElem (by omega),gF] at g2;obtain ⟨r0,rfl,_⟩:=fI g0;obtain ⟨r1,rfl,_⟩:=fI g1;obtain ⟨r2,rfl,_⟩:=fI g2;refine ⟨[r0,r1,r2],fun j hj=> ?_⟩;match j,hj with
  |0,_=> rfl
  |1,_=> rfl
  |2,_=> rfl
theorem qGr (n:Nat) (cs:List Value) (y:DataW H × List MemPlace) (hlen:cs.length=5) (h:DataW.trod enc prog w b sp hd n 102 cs=some y):qCe 5 cs:=by
 match cs,hlen with
 |[c0,c1,c2,c3,c4],_=>
  obtain ⟨xs,n,_,_,_,hl,hg⟩:=DataW.trod_struct underlying102 h;have g0:DataW.trod enc prog w b sp hd n 3 (([c0,c1,c2,c3,c4].drop 0).take (prog.cellsOf 3))=xs[0]? :=hg 0 _ rfl;have g1:DataW.trod enc prog w b sp hd n 3 (([c0,c1,c2,c3,c4].drop 1).take (prog.cellsOf 3))=xs[1]? :=hg 1 _ rfl;have g2:DataW.trod enc prog w b sp hd n 3 (([c0,c1,c2,c3,c4].drop 2).take (prog.cellsOf 3))=xs[2]? :=hg 2 _ rfl;have g3:DataW.trod enc prog w b sp hd n 3 (([c0,c1,c2,c3,c4].drop 3).take (prog.cellsOf 3))=xs[3]? :=hg 3 _ rfl;have g4:DataW.trod enc prog w b sp hd n 3 (([c0,c1,c2,c3,c4].drop 4).take (prog.cellsOf 3))=xs[4]? :=hg 4 _ rfl;have hx:xs.length=5:=hl;rw [List.getElem?_eq_getElem (by omega),gF] at g0;rw [List.getElem?_eq_getElem (by omega),gF] at g1;rw [List.getElem?_eq_getElem (by omega),gF] at g2;rw [List.getElem?_eq_getElem (by omega),gF] at g3;rw [List.getElem?_eq_getElem (by omega),gF] at g4;obtain ⟨r0,rfl,_⟩:=fI g0;obtain ⟨r1,rfl,_⟩:=fI g1;obtain ⟨r2,rfl,_⟩:=fI g2;obtain ⟨r3,rfl,_⟩:=fI g3;obtain ⟨r4,rfl,_⟩:=fI g4;refine ⟨[r0,r1,r2,r3,r4],fun j hj=> ?_⟩;match j,hj with
  |0,_=> rfl
  |1,_=> rfl
  |2,_=> rfl
  |3,_=> rfl
  |4,_=> rfl
theorem qAk:prog.cellsOf 76=4:=by kernel_rfl
theorem qLg:prog.cellsOf 96=3:=by kernel_rfl
theorem sV:prog.cellsOf 102=5:=by kernel_rfl
theorem qHl:prog.cellsOf 97=1:=by kernel_rfl
theorem qCz {fuel:Nat} {cs:List Value} {x:DataW H × List MemPlace} (h:DataW.trod enc prog w b sp hd fuel 51 cs=some x):∃ v ws,cs=[v]∧nF w v ws:=by
 rcases open_slice1 underlying51 qHl h with ⟨rfl,_⟩|⟨a,len,cap,m,n,V,D,P',rfl,_,hl,hm,hmm,_,hi⟩
 · exact ⟨_,[],rfl,none,0,rfl,by simp,.inl rfl⟩
 · have hmax:Go.maxLen=9223372036854775807:=rfl;have hlm:len≤m:=by rw [hmm];split <;> omega
   have hall:∀ i,i<len→∃ l:List (List Int),w.cell? (a.add i)=some (V i)∧iG w 3 (V i) l:=fun i hil=> by
    obtain ⟨hc,ht'⟩:=hi i (by omega);obtain ⟨v,l,hv,hl⟩:=xI underlying97 qLg (by omega) qTh ht';injection hv with hv
    exact ⟨l,hc,hv ▸ hl⟩
   obtain ⟨f,hf⟩:=choose_lt hall;by_cases h0:len=0
   · subst h0;exact ⟨_,[],rfl,some a,cap,rfl,by simp,.inl rfl⟩
   · have hc0:=(hf 0 (by omega)).1;obtain ⟨b',off,spot⟩:=a;have hspot:spot=none:=by simpa [Addr.add] using World.cell?_spot hc0
     subst hspot;refine ⟨_,(List.range len).map f,rfl,_,cap,by rw [List.length_map,List.length_range],by rw [List.length_map,List.length_range];omega,.inr ⟨b',off,rfl,?_,fun i hi=> ?_⟩⟩
     · have:=tX hc0
       simpa [Addr.add] using this
     · rw [List.length_map,List.length_range] at hi
       have hadd:(⟨b',off,none⟩:Addr).add i=⟨b',off + i,none⟩:=by
        unfold Addr.add;split
        · rename_i hz;simp only [Addr.mk.injEq,and_true,true_and];omega
        · simp only [Addr.mk.injEq,and_true,true_and]
       have hfi:=hf i hi;rw [hadd] at hfi;refine ⟨V i,hfi.1,?_⟩;rw [List.getD_eq_getElem?_getD,List.getElem?_map,List.getElem?_range hi];exact hfi.2
theorem qAl:prog.cellsOf 53=4:=by kernel_rfl
theorem qYg {v:Value} {d:DataW H} {p:List MemPlace} (hv:Value.okWide prog w r base 53 v) (h:DataW.Trod enc prog w b sp hd 53 v d p):
 ∃ P:Pl.fH,jX w v P∧P.fr≤9223372036854775807:=by
 obtain ⟨c0,c1,c2,c3,y0,y1,y2,y3,n,rfl,_,_,h0,h1,h2,h3⟩:=open_agg4 underlying53 (by kernel_rfl) qAl hv h;obtain ⟨v0,ps,hv0,hps⟩:=xI underlying50 qAk (by omega) qGs h0;obtain ⟨fr,rfl,hw⟩:=fI h1;obtain ⟨v2,ws,hv2,hws⟩:=qCz h2;obtain ⟨v3,cs,hv3,hcs⟩:=xI underlying36 sV (by omega) qGr h3;injection hv0 with hv0
 injection hv2 with hv2
 injection hv3 with hv3
 subst hv0 hv2 hv3;exact ⟨⟨ps,fr,ws,cs⟩,⟨_,_,_,rfl,hps,hws,hcs⟩,(qAr hw).2⟩
end
end Go.Proofs.YtfncknignkndiaaGreatDoor
namespace Go.Proofs.YtfncknignkndiaaGreatDoor
open Go.Proofs.Tryz
open Go.ChangeShapes Go.WideShapes Go.ChangeAt Go.RowKit Go.Joins Go.Deep KR
namespace Kn
theorem tX {w:World} {a:Addr} {v:Value} (h:w.cell? a=some v):a.block<w.heap.size:=by
 rcases Nat.lt_or_ge a.block w.heap.size with h'|h'
 · exact h'
 · simp [World.cell?,Array.getElem?_eq_none h'] at h
section
variable {H:Type} {enc:TypeId × Value→H} {w:World} {base b:Nat} {sp:Nat→Bool} {hd:Bool} {r:Reach} {α:Type}
theorem qMg {fuel:Nat} {c:Value} {x:DataW H × List MemPlace} (h:DataW.trod enc prog w b sp hd fuel 9 [c]=some x):∃ s:ByteArray,c=.string s∧x=(.lit (.string s.data.toList),[]):=by
 obtain ⟨s,hc,hx,_⟩:=DataW.trod_string underlying9 h;injection hc with hc
 exact ⟨s,hc,hx⟩
theorem qZ {e:TypeId} {d:DataW H}:∀ {l:List (DataW H)},d ∈ l→∀ n ∈ d.weights prog e,n ∈ DataW.weightsAll prog e l
 |[],h,_,_=> nomatch h
 |a::l,h,n,hn=> by
  simp only [DataW.weightsAll,List.mem_append];rcases List.mem_cons.1 h with rfl|h
  · exact .inl hn
  · exact .inr (qZ h n hn)
theorem qKd [Inhabited α] {ts e:TypeId} {sz:Nat} {f:α→Array Value} {Q:α→DataW H→Prop} {fuel:Nat} {cs:List Value} {x:DataW H × List MemPlace} (ht:prog.underlying ts=some (.slice e)) (hC:prog.cellsOf e=sz) (hsz:0<sz) (hf:∀ x,(f x).size=sz)
 (hrow:∀ n cs y,cs.length=sz→DataW.trod enc prog w b sp hd n e cs=some y→∃ x,cs=(f x).toList∧Q x y.1) (h:DataW.trod enc prog w b sp hd fuel ts cs=some x):
 ∃ v l,cs=[v]∧Rd sz f w v l∧∀ y ∈ l,∃ d,Q y d∧∀ n ∈ d.weights prog e,n ∈ x.1.weights prog ts:=by
 rcases open_slice ht h with ⟨rfl,_⟩|⟨a,len,cap,m,n,D,P',rfl,_,hl,hm,hmm,hx,hi⟩
 · exact ⟨_,[],rfl,Rd.nil,fun y hy=> nomatch hy⟩
 · have hmax:Go.maxLen=9223372036854775807:=rfl;have hlm:len≤m:=by rw [hmm];split <;> omega
   have hall:∀ i,i<len→∃ x:α,(∀ j u,(f x)[j]? =some u→w.cell? (a.add (i * sz + j))=some u)∧Q x (D i):=fun i hil=> by
    obtain ⟨cs',hc,ht'⟩:=hi i (by omega);obtain ⟨_,hlen,hat⟩:=World.cells?_some hc;rw [hC] at hlen hat;obtain ⟨x,hx,hq⟩:=hrow _ _ _ hlen ht';refine ⟨x,fun j u hj=> ?_,hq⟩;have hjs:j<sz:=by have:=(Array.getElem?_eq_some_iff.1 hj).1;rwa [hf] at this
    rw [← add_add,hat j hjs,hx];simpa using hj
   obtain ⟨g,hg⟩:=choose_lt hall
   have hQ:∀ y ∈ (List.range len).map g,∃ d,Q y d∧∀ n ∈ d.weights prog e,n ∈ x.1.weights prog ts:=by
    intro y hy;obtain ⟨i,hi',rfl⟩:=List.mem_map.1 hy;have hil:=List.mem_range.1 hi';refine ⟨D i,(hg i hil).2,fun n hn=> ?_⟩;rw [hx];simp only [DataW.weights,ht,List.mem_cons,List.mem_append];exact .inr (.inl (qZ (List.mem_map.2 ⟨i,hi',rfl⟩) n hn))
   by_cases h0:len=0
   · subst h0;exact ⟨_,[],rfl,⟨some a,cap,rfl,hl,hm,.inl rfl⟩,fun y hy=> nomatch hy⟩
   · have hu0:(f (g 0))[0]? =some ((f (g 0))[0]'(by rw [hf];exact hsz)):=Array.getElem?_eq_getElem _;have hc0:=(hg 0 (by omega)).1 0 _ hu0;obtain ⟨b',off,spot⟩:=a;have hspot:spot=none:=by simpa [Addr.add] using World.cell?_spot hc0
     subst hspot;refine ⟨_,(List.range len).map g,rfl,⟨_,cap,by rw [List.length_map,List.length_range],by rw [List.length_map,List.length_range];exact hl,hm,.inr ⟨b',off,rfl,?_,fun i x hx j u hj=> ?_⟩⟩,hQ⟩
     · have:=tX hc0
       rw [oL] at this;exact this
     · have hil:i<len:=by have:=(List.getElem?_eq_some_iff.1 hx).1;simpa using this
       rw [List.getElem?_map,List.getElem?_range hil] at hx;obtain rfl:=Option.some.inj hx;have:=(hg i hil).1 j u hj
       rw [oL] at this;rw [Nat.add_assoc];exact this
theorem qLe:prog.cellsOf 9=1:=by kernel_rfl
theorem gF:prog.cellsOf 3=1:=by kernel_rfl
theorem sV:prog.cellsOf 102=5:=by kernel_rfl
theorem qHk:prog.cellsOf 22=1:=by kernel_rfl
theorem qUh:prog.cellsOf 36=1:=by kernel_rfl
instance:Inhabited ByteArray:=⟨ByteArray.empty⟩
instance:Inhabited cS:=⟨⟨0,0,0,0,0⟩⟩
theorem open_strs {fuel:Nat} {cs:List Value} {x:DataW H × List MemPlace} (h:DataW.trod enc prog w b sp hd fuel 22 cs=some x):∃ v l,cs=[v]∧Rd 1 strCells w v l:=by
 obtain ⟨v,l,h1,h2,_⟩:=qKd (Q:=fun _ _=> True) underlying22 qLe (by decide) qKp (fun n cs y hl h=> by
  match cs,hl with
  |[c],_=>
   obtain ⟨s,rfl,_⟩:=qMg h;exact ⟨s,rfl,trivial⟩) h
 exact ⟨v,l,h1,h2⟩
end
end Kn
end Go.Proofs.YtfncknignkndiaaGreatDoor
namespace Go.Proofs.YtfncknignkndiaaGreatDoor
open Go.Proofs.Tryz
open Go.ChangeShapes Go.WideShapes Go.ChangeAt Go.RowKit
theorem law_post {H:Type} {enc:TypeId × Value→H} {P:Program} {f:Func} {s:ChangeSpec} {apart fresh handsOn again:Bool} {W W':World} {args:Array Value} {ds:List (DataW H)} {before:List MemPlace} {tb:TypeId}
 (hW:DataW.Whole enc P f.params.toList s.vars apart W args.toList ds [] before)
 (hv:s.vars=[]) (hres:(s.fn H (ds ++ [])).results=[.lit (.bool true)]) (hargs:(s.fn H (ds ++ [])).args=ds) (hvs:(s.fn H (ds ++ [])).vars=[])
 (hrt:f.resultTypes=#[tb]) (hb:P.underlying tb=some .bool) (hl:laidOutB P=true) (hr:∀ t ∈ f.params.toList,P.readableRec t=true∧t<P.types.size)
 (hbel:Below W.heap.size W W'):s.post enc P f apart fresh handsOn again W args (.bool true) W':=by
 have hW':=hW;obtain ⟨p,q,hA,hV,rfl,hfz,hnd⟩:=hW;rw [hv] at hV;obtain ⟨_,rfl⟩:=trodVars_none hV;have hlt:∀ x ∈ p,x.block<W.heap.size:=fun x hx=> hW'.lt x (by simpa using hx);refine qBx (pa:=p) (pv:=[]) hW' ?_ ?_ ?_ rfl hbel ?_
 · intro b sp hd;rw [hres,hrt];exact trodAll_mk1 (shut_bool hb true)
 · intro sp hsp;rw [hargs];exact qCb hl hbel hr hA hlt sp (fun x hx=> hsp x (by simpa using hx))
 · intro sp _;rw [hvs,hv];rfl
 · exact ok_one hrt rfl (okWide_bool_mk hb true)
theorem own:ownKnob prog.godebug=none:=by kernel_rfl
theorem gTab:prog.globalNamed "transom/isa.uses" =some 0:=by kernel_rfl
theorem gTabType:(prog.globals[0]?).map (·.type)=some 318:=by kernel_rfl
theorem qLf:prog.cellsOf 318=25:=by kernel_rfl
theorem xAo {W:World} (h:laidMetH prog [("transom/isa.uses",Rows.laid_transom_isa_uses)] W):Tab W:=fun k hk=> by
 have t:Lib.TabIs prog W "transom/isa.uses" .i64 Cp.tbl:=Lib.tabIs_of_head (rest:=[]) gTab gTabType underlying318 underlying3 Kn.gF qLf h
 exact t.cell gTab k hk
noncomputable def laidWorld (os:Os):World:=
 {World.holding prog os ⟨#[],#[],[]⟩ with heap:=(World.holding prog os ⟨#[],#[],[]⟩).heap.modify 0 fun
  | .cells _ t frozen=> .cells (Cp.tbl.map (Value.int .i64)).toArray t frozen
  |o=> o}
theorem qYe:false=Tryz.pinned.checked.prog.looks []:=by kernel_rfl
theorem qYd:laidOutB prog=true:=by kernel_rfl
end Go.Proofs.YtfncknignkndiaaGreatDoor
namespace Go.Proofs.YtfncknignkndiaaGreatDoor
open Go.Proofs.Tryz
open Go.ChangeShapes Go.WideShapes Go.ChangeAt Go.RowKit Go.Joins Go.Deep KR Kn
namespace Hy
section
variable {H:Type} {enc:TypeId × Value→H} {w:World} {base b:Nat} {sp:Nat→Bool} {hd:Bool} {r:Reach}
def uN (sz:Nat) (x:List Int):Array Value:=((List.range sz).map fun j=> Value.int .i64 (Pl.g x j)).toArray
theorem qUq (sz:Nat) (x:List Int):(uN sz x).size=sz:=by simp [uN]
theorem qPy {sz:Nat} {x:List Int} {j:Nat} (h:j<sz):(uN sz x)[j]? =some (.int .i64 (Pl.g x j)):=by
 unfold uN;rw [List.getElem?_toArray,List.getElem?_map,List.getElem?_range h];rfl
theorem rowIs {sz:Nat} {cs:List Value} (hl:cs.length=sz) (h:qCe sz cs):∃ x:List Int,cs=(uN sz x).toList:=by
 obtain ⟨x,hx⟩:=h;refine ⟨x,List.ext_getElem? fun j=> ?_⟩;by_cases hj:j<sz
 · rw [hx j hj,Array.getElem?_toList,qPy hj]
 · rw [List.getElem?_eq_none (by omega),List.getElem?_eq_none (by rw [Array.length_toList,qUq];omega)]
theorem qCy {ts e:TypeId} {sz fuel:Nat} {cs:List Value} {x:DataW H × List MemPlace} (ht:prog.underlying ts=some (.slice e)) (hC:prog.cellsOf e=sz) (hsz:0<sz)
 (hrow:∀ n cs y,cs.length=sz→DataW.trod enc prog w b sp hd n e cs=some y→qCe sz cs) (h:DataW.trod enc prog w b sp hd fuel ts cs=some x):∃ v l,cs=[v]∧Rd sz (uN sz) w v l:=by
 obtain ⟨v,l,h1,h2,_⟩:=qKd (f:=uN sz) (Q:=fun _ _=> True) ht hC hsz (qUq sz) (fun n cs y hl h=> by
  obtain ⟨x,hx⟩:=rowIs hl (hrow n cs y hl h);exact ⟨x,hx,trivial⟩) h
 exact ⟨v,l,h1,h2⟩
theorem qAb {sz:Nat} {v:Value} {l:List (List Int)} (h:Rd sz (uN sz) w v l):iG w sz v l:=by
 obtain ⟨a,c,rfl,h1,h2,h⟩:=h;refine ⟨a,c,rfl,by omega,?_⟩;rcases h with h|⟨b,off,rfl,hb,hc⟩
 · exact .inl h
 · refine .inr ⟨b,off,rfl,hb,fun i j hi hj=> ?_⟩;rw [List.getD_eq_getElem?_getD,List.getElem?_eq_getElem hi];exact hc i _ (List.getElem?_eq_getElem hi) j _ (qPy hj)
theorem qPw {α β:Type} {sz:Nat} {f:α→Array Value} {g:β→Array Value} {v:Value} {l:List α} (h:Rd sz f w v l) (k:α→β) (hk:∀ x,g (k x)=f x):Rd sz g w v (l.map k):=by
 obtain ⟨a,c,rfl,h1,h2,h⟩:=h;refine ⟨a,c,by rw [List.length_map],by rw [List.length_map];exact h1,h2,?_⟩;rcases h with rfl|⟨b,off,rfl,hb,hc⟩
 · exact .inl rfl
 · refine .inr ⟨b,off,rfl,hb,fun i x hx j u hj=> ?_⟩;rw [List.getElem?_map] at hx;obtain ⟨y,hy,rfl⟩:=Option.map_eq_some_iff.1 hx;rw [hk] at hj;exact hc i y hy j u hj
theorem qEn {vp vw vc:Value} {P:Pl.fH} (hp:Rd 4 (uN 4) w vp P.ps) (hw:nF w vw P.ws) (hc:Rd 5 (uN 5) w vc P.cs):iF w vp vw vc P:=
 ⟨⟨_,_,_,rfl,qAb hp,hw,qAb hc⟩,qPw hc chanOf fun _=> rfl,qPw hp partOf fun _=> rfl⟩
theorem qIh {fuel:Nat} {c0 c1 c2 c3:Value} {x:DataW H × List MemPlace} (h:DataW.trod enc prog w b sp hd fuel 53 [c0,c1,c2,c3]=some x):
 ∃ P:Pl.fH,c1=.int .i64 P.fr∧iF w c0 c2 c3 P∧P.fr≤9223372036854775807:=by
 obtain ⟨xs,n,_,_,_,hl,hge⟩:=DataW.trod_struct underlying53 h;have hx:xs.length=4:=hl;have g0:DataW.trod enc prog w b sp hd n 50 (([c0,c1,c2,c3].drop 0).take (prog.cellsOf 50))=xs[0]? :=hge 0 _ rfl;rw [List.getElem?_eq_getElem (by omega),(show prog.cellsOf 50=1 by kernel_rfl)] at g0;have h0:DataW.trod enc prog w b sp hd n 50 [c0]=some (xs[0]'(by omega)):=g0;have g1:DataW.trod enc prog w b sp hd n 3 (([c0,c1,c2,c3].drop 1).take (prog.cellsOf 3))=xs[1]? :=hge 1 _ rfl;rw [List.getElem?_eq_getElem (by omega),(show prog.cellsOf 3=1 by kernel_rfl)] at g1;have h1:DataW.trod enc prog w b sp hd n 3 [c1]=some (xs[1]'(by omega)):=g1;have g2:DataW.trod enc prog w b sp hd n 51 (([c0,c1,c2,c3].drop 2).take (prog.cellsOf 51))=xs[2]? :=hge 2 _ rfl;rw [List.getElem?_eq_getElem (by omega),(show prog.cellsOf 51=1 by kernel_rfl)] at g2;have h2:DataW.trod enc prog w b sp hd n 51 [c2]=some (xs[2]'(by omega)):=g2;have g3:DataW.trod enc prog w b sp hd n 36 (([c0,c1,c2,c3].drop 3).take (prog.cellsOf 36))=xs[3]? :=hge 3 _ rfl;rw [List.getElem?_eq_getElem (by omega),(show prog.cellsOf 36=1 by kernel_rfl)] at g3;have h3:DataW.trod enc prog w b sp hd n 36 [c3]=some (xs[3]'(by omega)):=g3;obtain ⟨v0,ps,hv0,hps⟩:=qCy underlying50 qAk (by omega) qGs h0;obtain ⟨fr,rfl,hw⟩:=fI h1;obtain ⟨v2,ws,hv2,hws⟩:=qCz h2;obtain ⟨v3,cs,hv3,hcs⟩:=qCy underlying36 sV (by omega) qGr h3;injection hv0 with hv0
 injection hv2 with hv2
 injection hv3 with hv3
 subst hv0 hv2 hv3;exact ⟨⟨ps,fr,ws,cs⟩,rfl,qEn hps hws hcs,(qAr hw).2⟩
theorem qXd {v:Value} {d:DataW H} {p:List MemPlace} (hv:Value.okWide prog w r base 53 v) (h:DataW.Trod enc prog w b sp hd 53 v d p):
 ∃ vp vw vc P,v=.agg (eV vp vw vc P.fr)∧iF w vp vw vc P∧P.fr≤9223372036854775807:=by
 obtain ⟨cs,rfl,hsz⟩:=okWide_struct underlying53 hv;rw [qAl] at hsz;obtain ⟨fuel,hf⟩:=h;obtain ⟨l0⟩:=cs;match l0,hsz with
 |[c0,c1,c2,c3],_=>
  obtain ⟨P,rfl,hp,hfr⟩:=qIh hf;exact ⟨_,_,_,P,rfl,hp,hfr⟩
theorem qGk {fuel:Nat} {v:Value} {x:DataW H × List MemPlace} {l:List ByteArray} (hr:Rd 1 strCells w v l) (h:DataW.trod enc prog w b sp hd fuel 22 [v]=some x):l=[]∨∃ m,l.length≤m∧m * 16 ∈ x.1.weights prog 22:=by
 obtain ⟨a1,c1,rfl,_,_⟩:=hr.shape;rcases open_slice underlying22 h with ⟨he,_⟩|⟨a',len',cap',m,n,D,P',he,_,hl,hm,hmm,hx,hi⟩
 · injection he with he _
   injection he with _ he _
   exact .inl (List.eq_nil_of_length_eq_zero he)
 · injection he with he _
   injection he with _ he _
   refine .inr ⟨((List.range len').map D).length + ((List.range (m - len')).map fun j=> D (len' + j)).length,by simp;omega,?_⟩;have hb:prog.bytesOf 9=16:=by kernel_rfl
   rw [hx];unfold DataW.weights;rw [underlying22];dsimp only;rw [hb];exact List.mem_cons_self ..
theorem qEl {fuel:Nat} {c:Value} {x:DataW H × List MemPlace} (h':DataW.trod enc prog w b sp hd fuel 54 [c]=some x):
 ∃ l,tP w c l∧∀ y ∈ l,y=[]∨∃ m,y.length≤m∧m * 16 ∈ x.1.weights prog 54:=by
 rcases open_slice1 underlying54 qHk h' with ⟨he,_⟩|⟨a,len,cap,m,n,V,D,P',he,_,hl,hm,hmm,hx,hi⟩
 · injection he with he _
   exact ⟨[],⟨none,0,he,Nat.le_refl _,by omega,.inl rfl⟩,fun y hy=> nomatch hy⟩
 · injection he with he _
   rw [he];have hmax:Go.maxLen=9223372036854775807:=rfl;have hlm:len≤m:=by rw [hmm];split <;> omega
   have hall:∀ i,i<len→∃ l:List ByteArray,w.cell? (a.add i)=some (V i)∧Rd 1 strCells w (V i) l∧(l=[]∨∃ m,l.length≤m∧m * 16 ∈ (D i).weights prog 22):=fun i hil=> by
    obtain ⟨hc,ht'⟩:=hi i (by omega);obtain ⟨v,l,hv,hl⟩:=open_strs ht';injection hv with hv
    exact ⟨l,hc,hv ▸ hl,qGk (hv ▸ hl) ht'⟩
   obtain ⟨f,hf⟩:=choose_lt hall
   have hQ:∀ y ∈ (List.range len).map f,y=[]∨∃ m,y.length≤m∧m * 16 ∈ x.1.weights prog 54:=by
    intro y hy;obtain ⟨i,hi',rfl⟩:=List.mem_map.1 hy;have hil:=List.mem_range.1 hi';rcases (hf i hil).2.2 with h|⟨k,h1,h2⟩
    · exact .inl h
    · refine .inr ⟨k,h1,?_⟩;subst hx;simp only [DataW.weights,underlying54,List.mem_cons,List.mem_append];exact .inr (.inl (qZ (List.mem_map.2 ⟨i,hi',rfl⟩) _ h2))
   by_cases h0:len=0
   · subst h0;exact ⟨[],⟨some a,cap,rfl,hl,hm,.inl rfl⟩,fun y hy=> nomatch hy⟩
   · have hc0:=(hf 0 (by omega)).1;obtain ⟨b',off,spot⟩:=a;have hspot:spot=none:=by simpa [Addr.add] using World.cell?_spot hc0
     subst hspot;refine ⟨(List.range len).map f,⟨_,cap,by rw [List.length_map,List.length_range],by rw [List.length_map,List.length_range];exact hl,hm,.inr ⟨b',off,rfl,?_,fun i x hx=> ?_⟩⟩,hQ⟩
     · have:=Kn.tX hc0
       rw [oL] at this;exact this
     · have hil:i<len:=by have:=(List.getElem?_eq_some_iff.1 hx).1;simpa using this
       rw [List.getElem?_map,List.getElem?_range hil] at hx;obtain rfl:=Option.some.inj hx;have hfi:=hf i hil;refine ⟨V i,?_,hfi.2.1⟩;have:=hfi.1
       rw [oL] at this;exact this
theorem qUm {v:Value} {d:DataW H} {p:List MemPlace} (hv:Value.okWide prog w r base 54 v) (h:DataW.Trod enc prog w b sp hd 54 v d p):
 ∃ l,tP w v l∧∀ y ∈ l,y=[]∨∃ m,y.length≤m∧m * 16 ∈ d.weights prog 54:=by
 obtain ⟨a0,len0,cap0,rfl⟩:=okWide_slice underlying54 hv;obtain ⟨fuel,h⟩:=h;exact qEl (x:=(d,p)) h
theorem qYc {T:TypeId} {ts:List TypeId} {ds:List (DataW H)} {j:Nat} {d:DataW H} {l:List (List ByteArray)} (hr:(DataW.weightsEach prog ts ds).all (· ≤reachBytes)=true) (ht:ts[j]? =some T) (hd:ds[j]? =some d)
 (h:∀ y ∈ l,y=[]∨∃ m,y.length≤m∧m * 16 ∈ d.weights prog T):∀ y ∈ l,y.length≤8796093022207:=by
 intro y hy;rcases h y hy with rfl|⟨m,hm,hw⟩
 · decide
 · have h1:=List.all_eq_true.1 hr _ (DataW.weights_mem_each ht hd _ hw);have h2:m * 16≤reachBytes:=by simpa using h1
   unfold reachBytes at h2;omega
end
end Hy
end Go.Proofs.YtfncknignkndiaaGreatDoor
namespace Go.Proofs.YtfncknignkndiaaGreatDoor
open Go.Proofs.Tryz
open Go.RowKit KR Kn RegT3
namespace Hy
theorem qCq:∀ n:Nat,flat AB.cells (List.replicate n ⟨.slice none 0 0,[]⟩)=(List.range (n * 1)).map (fun i=> (#[Value.slice none 0 0]:Array Value)[i % 1]!)
 |0=> rfl
 |n + 1=> by
  rw [List.replicate_succ',eQ,qCq n,Nat.add_mul,Nat.one_mul,List.range_succ,List.map_append];congr 1
  simp [flat,AB.cells,Nat.mod_one]
theorem qUl (w:World) (n:Nat) (hn:n≤1000000):∃ v W',(Instr.makeSlice 59 (.int .i64 (n:Int)) (.int .i64 (n:Int))).run prog w=.ok v W'∧nM W' v (List.replicate n ⟨.slice none 0 0,[]⟩)∧Below w.heap.size w W':=by
 have hi:(prog.info? 69).map (fun i=> (i.zero.map (·.cells),i.size,i.bytes))=some (some #[.slice none 0 0],1,24):=by kernel_rfl
 cases hq:prog.info? 69 with
 |none=> simp [hq] at hi
 |some i=>
  rw [hq] at hi;simp only [Option.map_some,Option.some.injEq,Prod.mk.injEq] at hi;obtain ⟨hz,hs,hb⟩:=hi;cases hz0:i.zero with
  |none=> simp [hz0] at hz
  |some z=>
   rw [hz0] at hz;simp only [Option.map_some,Option.some.injEq] at hz;obtain ⟨W',hrun,hown,hg⟩:=run_makeSlice_full (P:=prog) w w.heap.size 59 69 i z 1 underlying59 hq hz0 hs .i64 .i64 n (by omega) (by rw [hb];omega) (by unfold maxLen;omega) (Nat.le_refl _);refine ⟨_,W',hrun,⟨?_,fun x hx=> ?_⟩,⟨hg.os,hg.tape,hg.output,hg.size,fun k hk=> hg.block k hk (by simp)⟩⟩
   · have hO:KR.Own 69 1 AB.cells w.heap.size W' (.slice (some ⟨w.heap.size,0,none⟩) n n) (List.replicate n ⟨.slice none 0 0,[]⟩):=by
      unfold KR.Own;rw [List.length_replicate,qCq]
      have:(madeCells z.cells (n * 1)).toList=(List.range (n * 1)).map (fun i=> (#[Value.slice none 0 0]:Array Value)[i % 1]!):=by
       rw [hz];simp [madeCells,Array.toList_map,Array.toList_range]
      rw [← this];exact hown
     exact KR.Own.sl szAB hO
   · obtain rfl:=List.eq_of_mem_replicate hx;exact Sl.nil
theorem qRb (b:Nat) (im:Value) (l:List (List ByteArray)) (i:Nat) (w:World) (hb:w.heap[b]? =some (.cells #[im] 54 (0,0))) (h:tP w im l):
 ∃ u,Rd 1 strCells w u (l.getD i [])∧Calls prog 43 #[.int .i64 i,.pointer (some ⟨b,0,none⟩)] w (Is u w):=by
 obtain ⟨a,c,rfl,hlc,hmax,hh⟩:=h;have f0:w.cell? ⟨b,0,none⟩=some (.slice a l.length c):=aC hb 0;have i0:(0:Int)≤(i:Int):=by omega
 by_cases hi:i<l.length
 · rcases hh with rfl|⟨b2,off,rfl,hb2,aC⟩
   · simp at hi
   · obtain ⟨u,hu,hr⟩:=aC i (l[i]) (List.getElem?_eq_getElem hi);refine ⟨u,by rw [List.getD_eq_getElem?_getD,List.getElem?_eq_getElem hi];exact hr,?_⟩;have e1:decide ((l.length:Int)≤(i:Int))=false:=by simp;omega
     have e2:decide (l.length≤i)=false:=by simp;omega
     have e3:(i:Int)<(l.length:Int):=by omega
     clear aC hr hlc hmax;go_in;refine sg ?_;intros;go_ret;exact ⟨rfl,rfl⟩
 · refine ⟨.slice none 0 0,?_,?_⟩
   · rw [List.getD_eq_getElem?_getD,List.getElem?_eq_none (by omega)];exact Sl.nil.rd (E:=9)
   · have e1:decide ((l.length:Int)≤(i:Int))=true:=by simp;omega
     have e2:decide (l.length≤i)=true:=by simp;omega
     clear hh hlc hmax;go_in;refine sg ?_;intros;go_ret;exact ⟨rfl,rfl⟩
theorem qCx:∀ u ∈ (Value.agg zSy).cells.toList,u.oneCell'=true:=List.all_eq_true.1 (show ((Value.agg zSy).cells.toList.all (·.oneCell'))=true from rfl)
theorem qQr:∀ W,(zeroValue 67).run prog W=.ok (.agg zKe) W:=iU (by kernel_rfl)
theorem qGj (x:Part):∀ u ∈ (Value.agg (Part.cells x)).cells.toList,u.oneCell'=true:=List.all_eq_true.1 (show ((Value.agg (Part.cells x)).cells.toList.all (·.oneCell'))=true from rfl)
def qHe (vp vw vc im:Value) (P:Pl.fH) (l:List (List ByteArray)) (w:World) (e:Ending) (w':World):Prop:=
 (Pl.check P ≠ 0∧e=.returned (.tuple #[.agg zSy,.int .i64 (Pl.check P)])∧Below w.heap.size w w')∨
 (Pl.check P=0∧∃ y,e=.returned (.tuple #[.agg (aS y (gE P l)),.int .i64 0])∧cW w' y (gE P l)∧(y.vp=vp∧y.vw=vw∧y.vc=vc∧y.im=im)∧Below w.heap.size w w')
theorem qHe.cells {vp vw vc im:Value} {P:Pl.fH} {l:List (List ByteArray)} {w w':World} {e:Ending} (h:qHe vp vw vc im P l w e w'):∃ (c:Array Value) (ck:Int),e=.returned (.tuple #[.agg c,.int .i64 ck])∧c.size=11∧(∀ u ∈ (Value.agg c).cells.toList,u.oneCell'=true)∧Below w.heap.size w w'∧
 (ck=0→Pl.check P=0∧∃ y,c=aS y (gE P l)∧cW w' y (gE P l)∧(y.vp=vp∧y.vw=vw∧y.vc=vc∧y.im=im)):=by
 rcases h with ⟨h,rfl,hb⟩|⟨h,y,rfl,hs,hv,hb⟩
 · exact ⟨_,_,rfl,rfl,qCx,hb,fun h0=> absurd h0 h⟩
 · exact ⟨_,_,rfl,rfl,nT hs,hb,fun _=> ⟨h,y,rfl,hs,hv⟩⟩
theorem iF.wins {W:World} {vp vw vc:Value} {P:Pl.fH} (h:iF W vp vw vc P):∃ a c,vw=.slice a P.ws.length c:=by
 obtain ⟨vp',vw',vc',hv,_,hw,_⟩:=h.pl;unfold eV at hv;injection hv with hv
 simp only [Array.mk.injEq,List.cons.injEq,and_true,true_and] at hv;rw [hv.2.1];obtain ⟨a,c,rfl,_⟩:=hw;exact ⟨a,c,rfl⟩
def mF (P:Pl.fH) (l:List (List ByteArray)) (i:Nat):cX:={gE P l with seats:=(gE P l).seats.take i}
def BegR (w:World) (vp vw vc im:Value) (P:Pl.fH) (l:List (List ByteArray)) (va:Value) (b7:Nat) (iv:Value) (W:World):Prop:=
 ∃ (i:Nat) (vs:Value) (ls:List SB),i≤P.ps.length∧iv=.int .i64 i∧Hid (W.heap[w.heap.size]? =some (.cells (eV vp vw vc P.fr) 53 (0,0)))∧Hid (W.heap[w.heap.size + 1]? =some (.cells #[im] 54 (0,0)))∧
   Hid (W.heap[w.heap.size + 1 + 1]? =some (.cells zSy 61 (0,0)))∧Hid (W.heap[b7]? =some (.cells (aS ⟨vp,vw,vc,im,vs,va,[],[]⟩ (mF P l i)) 61 (0,0)))∧
   Hid (KR.Own 67 19 SB.cells w.heap.size W vs ls)∧Hid (∀ x ∈ ls,aH W x.y x.bs x.s.k)∧Hid (ls.map (·.s)=(mF P l i).seats)∧Hid (nM W va (List.replicate P.ps.length ⟨.slice none 0 0,[]⟩))∧Hid (Below w.heap.size w W)
theorem qMc {P:Pl.fH} {l:List (List ByteArray)} {i:Nat} (h:i<P.ps.length):(mF P l (i + 1)).seats=(mF P l i).seats ++ [jP (partOf (P.ps.getD i [])) (l.getD i []) (oG (fD P) i) (lH (fD P) i)]:=by
 unfold mF gE;show List.take (i + 1) _=List.take i _ ++ _
 rw [List.take_add_one,List.getElem?_map,List.getElem?_range h];rfl
theorem qMa (P:Pl.fH) (l:List (List ByteArray)):mF P l P.ps.length=gE P l:=by
 unfold mF gE;rw [List.take_of_length_le (by simp)]
theorem tnA {E:TypeId} {W W':World} {v:Value} {l:List AB} (ht:Tn E W W') (h:nM W v l) (h1:69 ≠ E) (h2:131 ≠ E):nM W' v l:=
 ⟨h.1.stay (fun j c hj=> ht.oth j c _ (Ne.symm h1) hj),fun x hx=> (h.2 x hx).stay (fun j c hj=> ht.oth j c _ (Ne.symm h2) hj)⟩
theorem qAw {α:Type} {T:TypeId} {sz:Nat} {f:α→Array Value} {W:World} {n:Nat} {x:α} (h:W.heap[n]? =some (.cells (f x) T (0,0))):Rd sz f W (.slice (some ⟨n,0,none⟩) 1 1) [x]:=
 ⟨_,1,rfl,Nat.le_refl _,by decide,.inr ⟨n,0,rfl,hlt h,fun i y hy j u hj=> by
   obtain rfl:i=0:=by
    rcases i with _|i
    · rfl
    · simp at hy
   obtain rfl:x=y:=by simpa using hy
   rw [show 0 + 0 * sz + j=j by rw [Nat.zero_mul];omega];exact (aC h j).trans hj⟩⟩
theorem ownB {α:Type} {E:TypeId} {sz B:Nat} {f:α→Array Value} {W W':World} {v:Value} {l:List α} (hb:Below W.heap.size W W') (h:Hid (KR.Own E sz f B W v l)):Hid (KR.Own E sz f B W' v l):=hU (cY h.out hb)
theorem ownT {α:Type} {E T:TypeId} {sz B b:Nat} {f:α→Array Value} {c cs:Array Value} {W W':World} {v:Value} {l:List α} (h:KR.Own E sz f B W v l) (hb:W.heap[b]? =some (.cells c T (0,0))) (hp:Put b cs T W W') (hT:E ≠ T):KR.Own E sz f B W' v l:=
 ⟨h.1,by
   rcases h.2 with h2|⟨g,cap,cur,rfl,h1,h2,h3⟩
   · exact .inl h2
   · exact .inr ⟨g,cap,cur,rfl,h1,(hp.oth g (eS h2 hb hT)).trans h2,h3⟩⟩
theorem qNg (vp vw vc im:Value) (P:Pl.fH) (l:List (List ByteArray)) (w:World) (h:iF w vp vw vc P) (hfr:P.fr≤9223372036854775807) (him:tP w im l) (hl:∀ r ∈ l,r.length≤8796093022207):
 Calls prog 17 #[.agg (eV vp vw vc P.fr),im] w (qHe vp vw vc im P l w):=by
 obtain ⟨ap,cpp,hvp,_,_⟩:=h.pa.shape;rw [show (parts P).length=P.ps.length from List.length_map _] at hvp;subst hvp;obtain ⟨ai,ci,rfl,_⟩:=id him;obtain ⟨q0,q1,q2⟩:=KR.gG w w.heap.size (.cells (eV (.slice ap P.ps.length cpp) vw vc P.fr) 53) (.cells #[.slice ai l.length ci] 54) (.cells zSy 61) rfl;have hb0:Below w.heap.size w (((w.alloc (.cells (eV (.slice ap P.ps.length cpp) vw vc P.fr) 53)).alloc (.cells #[.slice ai l.length ci] 54)).alloc (.cells zSy 61)):=bel;obtain ⟨Wn,hW0⟩:=exW (((w.alloc (.cells (eV (.slice ap P.ps.length cpp) vw vc P.fr) 53)).alloc (.cells #[.slice ai l.length ci] 54)).alloc (.cells zSy 61));rw [hW0] at q0 q1 q2 hb0;have HP:=hU q0;have HI:=hU q1;have HR:=hU q2;have HB:=hU hb0;have HCK:=hU (fun W (hb:Below w.heap.size w W)=> fH.Check (.agg (eV (.slice ap P.ps.length cpp) vw vc P.fr)) P W (h.below hb).pl hfr);have HPL:=hU (fun W (hb:Below w.heap.size w W)=> h.below hb);have HIM:=hU (fun W (hb:Below w.heap.size w W)=> him.below hb);have HIL:=hU hl;clear q0 q1 q2 hb0 h him hl;go_in
 repeat' (first
  |(rw [hW0];clear hW0)
  |(refine aE (t:=53) (v:=.agg (eV (.slice ap P.ps.length cpp) vw vc P.fr)) rfl rfl rfl (aD zO HP.out rfl) ?_)
  |go_values|go_skip|go_guarded|refine wg ?_|go_step|go_upon)
 refine (HCK.out _ HB.out).mono ?_;rintro er Wn ⟨rfl,hb⟩;replace HP:=nB hb HP;replace HI:=nB hb HI;replace HR:=nB hb HR;replace HB:=nW hb HB;clear hb HCK;dsimp only;obtain ⟨ck,hck⟩:∃ ck,Pl.check P=ck:=⟨_,rfl⟩
 rw [hck];by_cases h0:ck=0
 case neg=>
  have e1:(ck !=0)=true:=by simpa using h0
  repeat' (first
   |(refine sN 61 (.agg zSy) 0 zSy dZ.size HR.out qCx fun Wn hp=> ?_
     have hB:=Below.put HB.out hp (by omega);replace HR:=pA hp;replace HB:=hU hB;clear hB hp)
   |go_values|go_skip|go_guarded|refine wg ?_|go_step|go_upon)
  (try simp only [Exit.inBlock,Exit.then]);refine bodyPost_ret (aT results17 dZ rfl HR.out rfl) rfl ?_
  exact .inl ⟨by rw [hck];exact h0,by rw [hck];rfl,HB.out⟩
 case pos=>
  subst h0;have HCK:=hU hck;have hps:P.ps.length≤4:=(Pl.cQ hck).2.1;have hcs:P.cs.length≤6:=(Pl.cQ hck).2.2.2.2.1;have hnp:P.ps.length≤1000000:=by omega
  have HPO:=hU (fun i=> zZ hck i)
  obtain ⟨gp,offp,hga⟩:∃ gp offp,ap=some ⟨gp,offp,none⟩:=by
   obtain ⟨_,_,he,_,_,hh⟩:=(HPL.out w (Below.refl _ _)).pa;injection he with he1 _ _
   rcases hh with hh|⟨gp,offp,hga,_⟩
   · have h1:(parts P).length=0:=by rw [hh];rfl
     rw [show (parts P).length=P.ps.length from List.length_map _] at h1;have:=(Pl.cQ hck).1
     omega
   · exact ⟨gp,offp,he1.trans hga⟩
  subst hga;clear hck;refine sg ?_;intros;refine wp_region_noPanic ?_;refine go0 (S:=fun W=> W.heap[w.heap.size]? =some (.cells #[(.slice (some ⟨gp,offp,none⟩) P.ps.length cpp),.int .i64 P.fr,vw,vc] 53 (0,0))∧W.cell? ⟨w.heap.size + 1,0,none⟩=some (.slice ai l.length ci)∧W.cell? ⟨w.heap.size,0,none⟩=some (.slice (some ⟨gp,offp,none⟩) P.ps.length cpp)) [8] (⟨HP.out,aC HI.out 0,aC HP.out 0⟩) fun hS=> ?_;obtain ⟨Wd,hWd⟩:=exW Wn.drew;replace HP:=dB hWd HP;replace HI:=dB hWd HI;replace HR:=dB hWd HR;replace HB:=nW (dW hWd) HB;rw [hWd] at hS ⊢;clear hWd;refine tv 0 (.agg #[(.slice (some ⟨gp,offp,none⟩) P.ps.length cpp),.int .i64 P.fr,vw,vc]) (fun W hSW=> aR rfl rfl (aD zO hSW.1 rfl)) ?_;(try simp only [aF])
  refine tl 1 ?_;(try simp only [aF])
  refine tp 2 ?_;(try simp only [aF])
  refine tl 3 ?_;(try simp only [aF])
  refine tp 4 ?_;(try simp only [aF])
  clear hS;revert HP HI HR HB;apply KR.qPi (F:=fun (aa:Option Addr) (ca:Nat) (b7:Nat) (Wn:World)=> Hid (Wn.heap[w.heap.size]? =some (.cells (eV (.slice (some ⟨gp,offp,none⟩) P.ps.length cpp) vw vc P.fr) 53 (0,0)))∧Hid (Wn.heap[w.heap.size + 1]? =some (.cells #[.slice ai l.length ci] 54 (0,0)))∧Hid (Wn.heap[w.heap.size + 1 + 1]? =some (.cells zSy 61 (0,0)))∧Hid (Below w.heap.size w Wn)∧Hid (nM Wn (.slice aa P.ps.length ca) (List.replicate P.ps.length ⟨.slice none 0 0,[]⟩))∧Hid (Wn.heap[b7]? =some (.cells zSy 61 (0,0)))∧w.heap.size + 1 + 1<b7)
  case h2=>
   intro hj HP HI HR HB;refine oT (i:=5) (j:=7) (by kernel_rfl) rfl rfl (fun K hK=> ?_) (fun K hK=> ?_)
   · refine want rfl ?_;obtain ⟨va,Wn,hrun,hva,hb⟩:=qUl Wd P.ps.length hnp;obtain ⟨aa,ca,hva2,_,_⟩:=hva.1.shape;rw [List.length_replicate] at hva2;subst hva2;refine sJ (vx:=.int .i64 (P.ps.length:Int)) (vy:=.int .i64 (P.ps.length:Int)) rfl rfl rfl hrun ?_;replace HP:=nB hb HP;replace HI:=nB hb HI;replace HR:=nB hb HR;replace HB:=nW hb HB;have HA:=hU hva;clear hrun hva hb;refine nx hK (⟨HP.out,aC HI.out 0,aC HP.out 0⟩) fun hS=> ?_;clear hK K hS;(try simp only [aF])
     refine tp 6 ?_ (hS:=fun _=> ⟨HP.out,aC HI.out 0,aC HP.out 0⟩);(try simp only [aF])
     refine ro 7 fun K hK=> ?_;go_simp;obtain ⟨b7,hab,hbz⟩:=nbz HB;have hb7:=nlt HR hab;obtain ⟨W1,hWn,hba,H7⟩:=nb1 (W:=Wn) (.cells zSy 61) hab;rw [hWn];clear hWn;replace HP:=nB hba HP;replace HI:=nB hba HI;replace HR:=nB hba HR;replace HB:=nW hba HB;replace HA:=hU (HA.out.below hba);clear hba;try rw [hab]
     clear hab;refine nx hK (⟨HP.out,aC HI.out 0,aC HP.out 0⟩) fun hS=> ?_;clear hK K hS;(try simp only [aF])
     exact hj aa ca b7 W1 ⟨HP,HI,HR,HB,HA,H7,hb7⟩
   · go_simp;obtain ⟨b7,hab,hbz⟩:=nbz HB;have hb7:=nlt HR hab;obtain ⟨W1,hWn,hba,H7⟩:=nb1 (W:=Wd) (.cells zSy 61) hab;rw [hWn];clear hWn;replace HP:=nB hba HP;replace HI:=nB hba HI;replace HR:=nB hba HR;replace HB:=nW hba HB;clear hba;try rw [hab]
     clear hab;refine nx hK (⟨HP.out,aC HI.out 0,aC HP.out 0⟩) fun hS=> ?_;clear hK K hS;(try simp only [aF])
     refine ro 5 fun K hK=> ?_;refine want rfl ?_;obtain ⟨va,Wn,hrun,hva,hb⟩:=qUl W1 P.ps.length hnp;obtain ⟨aa,ca,hva2,_,_⟩:=hva.1.shape;rw [List.length_replicate] at hva2;subst hva2;refine sJ (vx:=.int .i64 (P.ps.length:Int)) (vy:=.int .i64 (P.ps.length:Int)) rfl rfl rfl hrun ?_;replace HP:=nB hb HP;replace HI:=nB hb HI;replace HR:=nB hb HR;replace HB:=nW hb HB;replace H7:=nB hb H7;have HA:=hU hva;clear hrun hva hb;refine nx hK (⟨HP.out,aC HI.out 0,aC HP.out 0⟩) fun hS=> ?_;clear hK K hS;(try simp only [aF])
     refine tp 6 ?_ (hS:=fun _=> ⟨HP.out,aC HI.out 0,aC HP.out 0⟩);(try simp only [aF])
     exact hj aa ca b7 Wn ⟨HP,HI,HR,HB,HA,H7,hb7⟩
  rintro aa ca b7 Wn ⟨HP,HI,HR,HB,HA,H7,hb7⟩;have HVA:Hid (Value.oneCell' (.slice aa P.ps.length ca)=true):=hU rfl;obtain ⟨va,hva⟩:∃ va,(Value.slice aa P.ps.length ca)=va:=⟨_,rfl⟩
  rw [hva] at HA HVA;obtain ⟨h1,h2,h3⟩:=qPt (HPL.out w (Below.refl _ _))
  have HON:Hid (∀ (vs:Value) (i:Nat),vs.oneCell'=true→∀ u ∈ (Value.agg (aS ⟨(.slice (some ⟨gp,offp,none⟩) P.ps.length cpp),vw,vc,(.slice ai l.length ci),vs,va,[],[]⟩ (mF P l i))).cells.toList,u.oneCell'=true):=hU (fun vs i hv u hu=> by
   have hv2:=HVA.out;simp only [Value.cells,aS,List.mem_cons,List.not_mem_nil,or_false] at hu;rcases hu with rfl|rfl|rfl|rfl|rfl|rfl|rfl|rfl|rfl|rfl|rfl <;> first|rfl|assumption)
  clear h1 h2 h3;refine ro 8 fun K hK=> ?_;refine want rfl ?_;refine cL (v:=.agg (aS ⟨(.slice (some ⟨gp,offp,none⟩) P.ps.length cpp),vw,vc,(.slice ai l.length ci),.slice none 0 0,va,[],[]⟩ (mF P l 0))) (off:=0) (new:=aS ⟨(.slice (some ⟨gp,offp,none⟩) P.ps.length cpp),vw,vc,(.slice ai l.length ci),.slice none 0 0,va,[],[]⟩ (mF P l 0)) rfl rfl (by rw [← hva];rfl) dZ.size H7.out rfl (show 0 + 11≤11 by decide) (HON.out _ _ rfl) rfl ?_;intro Wn hp;have hB:=Below.put HB.out hp (by omega);replace HP:=pO hp HP;replace HI:=pO hp HI;replace HR:=pO hp HR;replace HA:Hid (nM Wn va (List.replicate P.ps.length ⟨.slice none 0 0,[]⟩)):=hU ⟨HA.out.1.put H7.out hp (by decide),fun x hx=> (HA.out.2 x hx).put H7.out hp (by decide)⟩;replace H7:=pA hp;replace HB:=hU hB;clear hB hp;refine nt hK ?_;clear hK K hva;(try simp only [aF])
  refine aZ (by kernel_rfl) (NoPanic.normal ?_) _;have p0:Wn.cell? ⟨w.heap.size,0,none⟩=some (.slice (some ⟨gp,offp,none⟩) P.ps.length cpp):=aC HP.out 0;refine sg ?_;intros;clear p0;go_loopw [28] (fun iv wr=> BegR w (.slice (some ⟨gp,offp,none⟩) P.ps.length cpp) vw vc (.slice ai l.length ci) P l va b7 iv wr) (fun iv _=> P.ps.length - (intOf iv).toNat)
  case atStart=> exact ⟨0,.slice none 0 0,[],Nat.zero_le _,rfl,HP,HI,HR,H7,hU (KR.Own.nil _ _ _ _ _),hU (fun x hx=> nomatch hx),hU rfl,HA,HB⟩
  case round=>
   clear HP HI HR H7 HA HB;obtain ⟨i,vs,ls,him,rfl,HP,HI,HR,H7,HO,HLS,HSL,HA,HB⟩:=hrel;obtain ⟨Wn,rfl⟩:∃ Wn,Wn=wr:=⟨_,rfl⟩
   by_cases hil:i<P.ps.length
   · have e1:decide ((i:Int)<(P.ps.length:Int))=true:=by simp;omega
     have e2:decide (i<P.ps.length)=true:=by simp;omega
     have i0:(0:Int)≤(i:Int):=by omega
     have i1:(i:Int)<(P.ps.length:Int):=by omega
     have hpa:=qGl (P:=P) (who:=i) (by omega);obtain ⟨xp,hxp⟩:∃ xp,partOf (P.ps.getD i [])=xp:=⟨_,rfl⟩
     rw [hxp] at hpa;obtain ⟨gp2,offp2,hgap,hglp,hcellp⟩:=(HPL.out Wn HB.out).pa.elem.2.2.2 i xp hpa;injection hgap with hgap
     injection hgap with hg1 hg2 _
     subst hg1 hg2;have HCP:=hU (hcellp Wn (Below.refl _ _));have HXP:=hU hxp;clear hcellp hglp hpa hxp;obtain ⟨bx,habx,hbzx⟩:=nbz HB;obtain ⟨W1,hW1,hba1,HX⟩:=nb1 (W:=Wn) (.cells #[.int .i64 0,.int .i64 0,.int .i64 0,.int .i64 0] 76) habx
     repeat' (first
      |(rw [hW1,habx];clear hW1)
      |(refine aE (t:=76) (v:=.agg (Part.cells xp)) rfl rfl rfl (cA nO rfl HCP.out) ?_)
      |(refine sN 76 (.agg (Part.cells xp)) 0 (Part.cells xp) nO.size HX.out (qGj xp) fun Wn hp=> ?_
        have hbb:=Below.put hba1 hp (Nat.le_of_eq habx);replace HP:=nB hbb HP;replace HI:=nB hbb HI;replace HR:=nB hbb HR;replace H7:=nB hbb H7;replace HO:=ownB hbb HO;replace HLS:Hid (∀ x ∈ ls,aH Wn x.y x.bs x.s.k):=hU (fun x hx=> (HLS.out x hx).below hbb);replace HA:=hU (HA.out.below hbb);replace HB:=nW hbb HB;replace HX:=pA hp;clear hbb hp hba1 HCP)
      |go_values|go_skip|go_guarded|refine wg ?_|go_step|go_upon)
     refine wp_region_noPanic ?_;refine go0 (S:=fun W=> W.cell? ⟨b7,8,none⟩=some vs∧W.heap[bx]? =some (.cells (Part.cells xp) 76 (0,0))∧W.heap[w.heap.size]? =some (.cells #[(.slice (some ⟨gp,offp,none⟩) P.ps.length cpp),.int .i64 P.fr,vw,vc] 53 (0,0))) [16] (⟨aC H7.out 8,HX.out,HP.out⟩) fun hS=> ?_;obtain ⟨Wd,hWd⟩:=exW Wn.drew;have hbd:=dW hWd;replace HP:=nB hbd HP;replace HI:=nB hbd HI;replace HR:=nB hbd HR;replace H7:=nB hbd H7;replace HX:=nB hbd HX;replace HO:=ownB hbd HO;replace HLS:Hid (∀ x ∈ ls,aH Wd x.y x.bs x.s.k):=hU (fun x hx=> (HLS.out x hx).below hbd);replace HA:=hU (HA.out.below hbd);replace HB:=nW hbd HB;rw [hWd] at hS ⊢;clear hWd hbd;refine tp 0 ?_;(try simp only [aF])
     refine tl 1 ?_;(try simp only [aF])
     refine tv 2 (.agg (Part.cells xp)) (fun W hSW=> aR rfl rfl (aD nO hSW.2.1 rfl)) ?_;(try simp only [aF])
     refine tp 3 ?_;(try simp only [aF])
     refine tp 4 ?_;(try simp only [aF])
     refine tv 6 (.agg #[(.slice (some ⟨gp,offp,none⟩) P.ps.length cpp),.int .i64 P.fr,vw,vc]) (fun W hSW=> aR rfl rfl (aD zO hSW.2.2 rfl)) ?_;(try simp only [aF])
     refine tp 7 ?_;(try simp only [aF])
     refine tv 9 (.agg #[(.slice (some ⟨gp,offp,none⟩) P.ps.length cpp),.int .i64 P.fr,vw,vc]) (fun W hSW=> aR rfl rfl (aD zO hSW.2.2 rfl)) ?_;(try simp only [aF])
     refine tp 10 ?_;(try simp only [aF])
     refine ro 5 fun K hK=> ?_;refine want rfl ?_;go_simp;obtain ⟨ui,hui,hcall⟩:=qRb (w.heap.size + 1) (.slice ai l.length ci) l i Wd HI.out (HIM.out _ HB.out);refine hcall.mono ?_;rintro er Wx ⟨rfl,rfl⟩;have HUI:=hU hui;clear hui hcall;dsimp only;refine nx hK hS fun hS=> ?_;clear hK K;(try simp only [aF])
     clear hS;refine ro 8 fun K hK=> ?_;refine want rfl ?_;go_simp;refine (qYu (.slice (some ⟨gp,offp,none⟩) P.ps.length cpp) vw vc P.fr i (fD P) _ (HPL.out _ HB.out).ch (by unfold fD;rw [List.length_map];omega)).mono ?_;rintro er Wn ⟨vo,rfl,hvo,hb⟩;have HVO:=hU (hvo.sl iO).rd;replace HP:=nB hb HP;replace HI:=nB hb HI;replace HR:=nB hb HR;replace H7:=nB hb H7;replace HX:=nB hb HX;replace HO:=ownB hb HO;replace HLS:Hid (∀ x ∈ ls,aH Wn x.y x.bs x.s.k):=hU (fun x hx=> (HLS.out x hx).below hb);replace HA:=hU (HA.out.below hb);replace HB:=nW hb HB;replace HUI:=hU (HUI.out.below hb);clear hvo hb;dsimp only;refine nx hK (⟨aC H7.out 8,HX.out,HP.out⟩) fun hS=> ?_;clear hK K;(try simp only [aF])
     clear hS;refine ro 11 fun K hK=> ?_;refine want rfl ?_;go_simp;refine (RIns (.slice (some ⟨gp,offp,none⟩) P.ps.length cpp) vw vc P.fr i (fD P) _ (HPL.out _ HB.out).ch (by unfold fD;rw [List.length_map];omega)).mono ?_;rintro er Wn ⟨vi,rfl,hvi,hb⟩;have HVI:=hU (hvi.sl iO).rd;replace HVO:=hU (HVO.out.below hb);replace HP:=nB hb HP;replace HI:=nB hb HI;replace HR:=nB hb HR;replace H7:=nB hb H7;replace HX:=nB hb HX;replace HO:=ownB hb HO;replace HLS:Hid (∀ x ∈ ls,aH Wn x.y x.bs x.s.k):=hU (fun x hx=> (HLS.out x hx).below hb);replace HA:=hU (HA.out.below hb);replace HB:=nW hb HB;replace HUI:=hU (HUI.out.below hb);clear hvi hb;dsimp only;refine nx hK (⟨aC H7.out 8,HX.out,HP.out⟩) fun hS=> ?_;clear hK K hS;(try simp only [aF])
     refine ro 12 fun K hK=> ?_;refine want rfl ?_;go_simp;have hx:=HPO.out i;rw [HXP.out] at hx;have hol:(oG (fD P) (i:Int)).length≤1000000:=Nat.le_trans (List.length_filter_le _ _) (by unfold fD;rw [List.length_map];omega);have hil2:(lH (fD P) (i:Int)).length≤1000000:=Nat.le_trans (List.length_filter_le _ _) (by unfold fD;rw [List.length_map];omega)
     have hul:(l.getD i []).length≤8796093022207:=by
      rw [List.getD_eq_getElem?_getD];cases h:l[i]? with
      |none=> decide
      |some r=> exact HIL.out r (List.mem_of_getElem? h)
     refine (qVn xp ui vo vi (l.getD i []) (oG (fD P) i) (lH (fD P) i) _ HUI.out HVO.out HVI.out hul hol hil2 hx.m0 hx.m1).mono ?_;clear hx hol hil2 hul;rintro er Wn ⟨vA,rfl,⟨yA,bsA,rfl,hl⟩,hb⟩;have HLA:=hU hl;clear HUI HVO HVI;replace HP:=nB hb HP;replace HI:=nB hb HI;replace HR:=nB hb HR;replace H7:=nB hb H7;replace HX:=nB hb HX;replace HO:=ownB hb HO;replace HLS:Hid (∀ x ∈ ls,aH Wn x.y x.bs x.s.k):=hU (fun x hx=> (HLS.out x hx).below hb);replace HA:=hU (HA.out.below hb);replace HB:=nW hb HB;clear hl hb;dsimp only;refine nx hK (⟨aC H7.out 8,HX.out,HP.out⟩) fun hS=> ?_;clear hK K hS;(try simp only [aF])
     obtain ⟨xs,hxs⟩:∃ xs:SB,xs=⟨yA,bsA,jP xp (l.getD i []) (oG (fD P) i) (lH (fD P) i)⟩:=⟨_,rfl⟩
     have hxc:SB.cells xs=aY yA (jP xp (l.getD i []) (oG (fD P) i) (lH (fD P) i)):=by rw [hxs];rfl
     have hxo:=sP HLA.out;replace HLA:Hid (aH Wn xs.y xs.bs xs.s.k):=hU (by rw [hxs];exact HLA.out);have hss:xs.s=jP xp (l.getD i []) (oG (fD P) i) (lH (fD P) i):=by rw [hxs]
     clear hxs;rw [← hxc] at hxo ⊢;have HSS:=hU hss;have HXO:=hU hxo;clear hxc hxo hss;refine ro 13 fun K hK=> ?_;refine want rfl ?_;refine eH (v:=.agg (SB.cells xs)) _ rfl rfl underlying58 dN.size qQr rfl (by decide) (by decide) rfl ?_;simp only [Value.cells];obtain ⟨g5,hab,hg5⟩:=nbz HB;obtain ⟨W1,hW1,hba,H5⟩:=nb1 (W:=Wn) (.cells (SB.cells xs) 67) hab;rw [hab,hW1];clear hab hW1;have hb:=hba;replace HP:=nB hb HP;replace HI:=nB hb HI;replace HR:=nB hb HR;replace H7:=nB hb H7;replace HX:=nB hb HX;replace HO:=ownB hb HO;replace HLS:Hid (∀ x ∈ ls,aH W1 x.y x.bs x.s.k):=hU (fun x hx=> (HLS.out x hx).below hb);replace HA:=hU (HA.out.below hb);replace HB:=nW hb HB;replace HLA:=hU (HLA.out.below hb);clear hb hba;refine nx hK (⟨aC H7.out 8,HX.out,HP.out⟩) fun hS=> ?_;clear hK K hS;(try simp only [aF])
     have hln:ls.length=i:=by
      have:=congrArg List.length HSL.out
      rw [List.length_map] at this;rw [this];show (List.take i _).length=i
      rw [List.length_take,show (gE P l).seats.length=P.ps.length by unfold gE;simp];omega
     obtain ⟨v2,W2,hrun,hv2,hgr⟩:=qOm (P:=prog) (t:=58) (ty:=58) (bytes:=336) szSB (by decide) underlying58 (by kernel_rfl) (fun x hx=> by rw [List.mem_singleton] at hx;subst hx;exact HXO.out) HO.out (qAw H5.out) HB.out.size (by rw [List.length_singleton];unfold maxLen;omega) (by rw [List.length_singleton];omega);obtain ⟨htn,hbl⟩:=xAg HO.out HB.out.size hgr;have HRUN:=hU hrun;refine ro 14 fun K hK=> ?_;refine want rfl ?_;refine jK _ _ _ _ rfl _ _ rfl rfl _ _ HRUN.out ?_;replace HO:Hid (KR.Own 67 19 SB.cells w.heap.size W2 v2 (ls ++ [xs])):=hU hv2;replace HP:=tnB htn HP;replace HI:=tnB htn HI;replace HR:=tnB htn HR;replace H7:=tnB htn H7;replace HX:=tnB htn HX
     replace HLS:Hid (∀ x ∈ ls ++ [xs],aH W2 x.y x.bs x.s.k):=hU (fun x hx=> by
      rcases List.mem_append.1 hx with hx|hx
      · exact (tnL htn (hU (HLS.out x hx))).out
      · rw [List.mem_singleton] at hx;subst hx;exact (tnL htn HLA).out)
     replace HA:=hU (tnA htn HA.out (by decide) (by decide));replace HB:Hid (Below w.heap.size w W2):=hU (HB.out.trans hbl);clear hrun hv2 hgr htn hbl HRUN HLA H5;refine nx hK (⟨aC H7.out 8,HX.out,HP.out⟩) fun hS=> ?_;clear hK K;(try simp only [aF])
     refine tp 15 ?_;(try simp only [aF])
     clear hS;have hvs:=HO.out.sl szSB;refine ro 16 fun K hK=> ?_;refine want rfl ?_;refine fU (v:=v2) (off:=8) (new:=aS ⟨(.slice (some ⟨gp,offp,none⟩) P.ps.length cpp),vw,vc,(.slice ai l.length ci),v2,va,[],[]⟩ (mF P l (i + 1))) rfl rfl rfl uI H7.out hvs.jF hvs.jW (show 8 + 1≤11 by decide) rfl ?_;intro Wn hp;have hB:=Below.put HB.out hp (by omega);have hsz7:=hlt H7.out;replace HP:=pO hp HP;replace HI:=pO hp HI;replace HR:=pO hp HR;replace HO:Hid (KR.Own 67 19 SB.cells w.heap.size Wn v2 (ls ++ [xs])):=hU (ownT HO.out H7.out hp (by decide));replace HLS:Hid (∀ x ∈ ls ++ [xs],aH Wn x.y x.bs x.s.k):=hU (fun x hx=> (HLS.out x hx).put H7.out iX hp);replace HA:Hid (nM Wn va (List.replicate P.ps.length ⟨.slice none 0 0,[]⟩)):=hU ⟨HA.out.1.put H7.out hp (by decide),fun x hx=> (HA.out.2 x hx).put H7.out hp (by decide)⟩;replace H7:=pA hp;replace HB:=hU hB;clear hB hp hvs;refine nt hK ?_;clear hK K;(try simp only [aF])
     refine aZ (by kernel_rfl) (NoPanic.normal ?_) _
     have HSN:Hid ((ls ++ [xs]).map (·.s)=(mF P l (i + 1)).seats):=hU (by
      rw [List.map_append,HSL.out,qMc (by omega),HXP.out,List.map_singleton,HSS.out])
     clear HSL HSS HX HXO;refine sg ?_;intros;exact ⟨⟨i + 1,v2,ls ++ [xs],by omega,by go_num,HP,HI,HR,H7,HO,HLS,HSN,HA,HB⟩,by simp [intOf];omega⟩
   · obtain rfl:i=P.ps.length:=by omega
     have e1:decide ((P.ps.length:Int)<(P.ps.length:Int))=false:=by simp
     have HSY:Hid (∀ W,Below Wn.heap.size Wn W→(∀ x ∈ ls,aH W x.y x.bs x.s.k)):=hU (fun W hb x hx=> (HLS.out x hx).below hb)
     repeat' (first
      |(refine aE (t:=61) (v:=.agg (aS ⟨(.slice (some ⟨gp,offp,none⟩) P.ps.length cpp),vw,vc,(.slice ai l.length ci),vs,va,[],[]⟩ (mF P l P.ps.length))) rfl rfl rfl (aD dZ H7.out rfl) ?_)
      |(refine sN 61 (.agg (aS ⟨(.slice (some ⟨gp,offp,none⟩) P.ps.length cpp),vw,vc,(.slice ai l.length ci),vs,va,[],[]⟩ (mF P l P.ps.length))) 0 (aS ⟨(.slice (some ⟨gp,offp,none⟩) P.ps.length cpp),vw,vc,(.slice ai l.length ci),vs,va,[],[]⟩ (mF P l P.ps.length)) dZ.size HR.out (HON.out _ _ (HO.out.sl szSB).jW) fun Wn hp=> ?_
        have hB:=Below.put HB.out hp (by omega);replace HO:Hid (KR.Sl 67 19 SB.cells Wn vs ls):=hU ((HO.out.sl szSB).put HR.out hp (by decide));replace HLS:Hid (∀ x ∈ ls,aH Wn x.y x.bs x.s.k):=hU (fun x hx=> (HLS.out x hx).put HR.out iX hp);replace HA:Hid (nM Wn va (List.replicate P.ps.length ⟨.slice none 0 0,[]⟩)):=hU ⟨HA.out.1.put HR.out hp (by decide),fun x hx=> (HA.out.2 x hx).put HR.out hp (by decide)⟩;replace HR:=pA hp;replace HB:=hU hB;clear hB hp)
      |go_values|go_skip|go_guarded|refine wg ?_|go_step|go_upon)
     (try simp only [Exit.inBlock,Exit.then]);refine bodyPost_ret (aT results17 dZ rfl HR.out rfl) rfl ?_
     have hm:mF P l P.ps.length=gE P l:=qMa P l;rw [hm] at HSL ⊢;refine .inr ⟨HCK.out,⟨(.slice (some ⟨gp,offp,none⟩) P.ps.length cpp),vw,vc,(.slice ai l.length ci),vs,va,ls,List.replicate P.ps.length ⟨.slice none 0 0,[]⟩⟩,rfl,⟨HPL.out _ HB.out,rfl,⟨HO.out,HLS.out⟩,HSL.out,HA.out,?_⟩,⟨rfl,rfl,rfl,rfl⟩,HB.out⟩;rw [List.map_replicate];rfl
