/- table.Find, Put, Remove: processes by their numbers. Conditions: as told. -/
import Derived.Test.YtfncknignkndiaaGreatDoorGRow
import Derived.Test.YtfncknignkndiaaGreatDoorGRo
set_option linter.unusedVariables false
set_option maxRecDepth 100000
set_option maxHeartbeats 8000000
set_option linter.unusedSimpArgs false
namespace Go.Proofs.YtfncknignkndiaaGreatDoor
open Tryz
open Go.RowKit KR
namespace Kn
abbrev SlP (W:World) (v:Value) (l:List Proc):Prop:=Sl 121 26 Proc.cells W v l
abbrev OwnP (B:Nat) (W:World) (v:Value) (l:List Proc):Prop:=Own 121 26 Proc.cells B W v l
theorem at1 (x:Proc) (b:Nat) (pid:Int) (W:World) (h:W.cell? ⟨b,0,none⟩=some (.int .i64 pid)) (hb:b<W.heap.size):Calls prog 166 #[.agg x.cells,.pointer (some ⟨b,0,none⟩)] W (aN (.bool (x.pid==pid)) W):=by
 have h0:x.cells[0]? =some (.int .i64 x.pid):=rfl;generalize x.cells=xc at *;go_in;repeat' (first|go_values|go_skip|go_guarded|refine wg ?_|go_step|go_upon|go_quiet (fail))
 go_ret;exact cE rfl bel
theorem qTg (x:Proc) (b:Nat) (pid:Int) (W:World) (h:W.cell? ⟨b,0,none⟩=some (.int .i64 pid)) (hb:b<W.heap.size):Calls prog 201 #[.agg x.cells,.pointer (some ⟨b,0,none⟩)] W (aN (.bool (x.pid==pid)) W):=by
 have h0:x.cells[0]? =some (.int .i64 x.pid):=rfl;generalize x.cells=xc at *;go_in;repeat' (first|go_values|go_skip|go_guarded|refine wg ?_|go_step|go_upon|go_quiet (fail))
 go_ret;exact cE rfl bel
theorem put1 (x:Proc) (b:Nat) (pid:Int) (W:World) (h:W.cell? ⟨b,0,none⟩=some (.int .i64 pid)) (hb:b<W.heap.size):Calls prog 120 #[.agg x.cells,.pointer (some ⟨b,0,none⟩)] W (aN (.bool (decide (pid<x.pid))) W):=by
 have h0:x.cells[0]? =some (.int .i64 x.pid):=rfl;generalize x.cells=xc at *;go_in;repeat' (first|go_values|go_skip|go_guarded|refine wg ?_|go_step|go_upon|go_quiet (fail))
 go_ret;exact cE rfl bel
theorem qZn:Enters prog 166:=enters_of func166 (by kernel_rfl) rfl
theorem qLr:Enters prog 201:=enters_of func201 (by kernel_rfl) rfl
theorem qWt:Enters prog 120:=enters_of func120 (by kernel_rfl) rfl
theorem qEc (v:Value) (l:List Proc) (pr:Proc→Bool) (F:FuncId) (cap:Value) (w:World) (h:SlP w v l) (hen:Enters prog F) (hcl:∀ x,∀ W,Below w.heap.size w W→Calls prog F #[.agg x.cells,cap] W (aN (.bool (pr x)) W)):
 Calls prog 119 #[v,.func (.func F) #[] #[cap]] w (aN (.int .i64 (idx l pr)) w):=by
 have HC:=hU (qJv v l pr F cap w h hen hcl);obtain ⟨a,c,rfl,_,_⟩:=h.shape;clear h hcl hen;go_in;repeat' (first|(go_at_call 167;refine HC.out.mono ?_;rintro e w1 ⟨rfl,hb1⟩;dsimp only)|go_values|go_skip|go_guarded|refine wg ?_|go_step|go_upon)
 go_ret;exact ⟨rfl,hb1⟩
theorem atP (v:Value) (l:List Proc) (pid:Int) (w:World) (h:SlP w v l):Calls prog 118 #[v,.int .i64 pid] w (aN (.int .i64 (idx l (fun p=> p.pid==pid))) w):=by
 have HC:=hU (qEc v l (fun p=> p.pid==pid) 166 (.pointer (some ⟨w.heap.size,0,none⟩)) (w.alloc (.cells #[.int .i64 pid] 3)) (h.below ((Below.refl _ _).alloc (Nat.le_refl _) _)) qZn
  (fun x W hb=> at1 x w.heap.size pid W ((hb.cell (p:=⟨w.heap.size,0,none⟩) (by simp)).trans (by go_simp)) (Nat.lt_of_lt_of_le (by simp) hb.size)))
 obtain ⟨a,c,rfl,_,_⟩:=h.shape;clear h;go_in;repeat' (first|(go_at_call 119;refine HC.out.mono ?_;rintro e w1 ⟨rfl,hb1⟩;dsimp only)|go_values|go_skip|go_guarded|refine wg ?_|go_step|go_upon)
 go_ret;exact ⟨rfl,Below.to ((Below.refl _ _).alloc (Nat.le_refl _) _) hb1⟩
theorem uD {α:Type} (pr:α→Bool):∀ l:List α,(∃ k:Nat,idx l pr=(k:Int)∧l.find? pr=l[k]? ∧k<l.length)∨(idx l pr= -1∧l.find? pr=none)
 |l=> by
  cases h:l.findIdx? pr with
  |none=>
   refine .inr ⟨by rw [idx,h],?_⟩;rw [List.findIdx?_eq_none_iff] at h;rw [List.find?_eq_none];exact fun x hx=> by simpa using h x hx
  |some k=>
   rw [List.findIdx?_eq_some_iff_getElem] at h;have h':=h;obtain ⟨hk,hp,hno⟩:=h;refine .inl ⟨k,by rw [idx,List.findIdx?_eq_some_iff_getElem.2 h'],?_,hk⟩;rw [List.getElem?_eq_getElem hk,List.find?_eq_some_iff_getElem];exact ⟨hp,k,hk,rfl,fun j hj=> by have:=hno j hj;simpa using this⟩
theorem oK (v:Value) (l:List Proc) (pid:Int) (w:World) (h:SlP w v l):
 Calls prog 81 #[v,.int .i64 pid] w (aN (.tuple #[.agg ((find l pid).getD Proc.zero).cells,.bool (find l pid).isSome]) w):=by
 have hat:=atP v l pid (w.alloc (.cells Proc.zero.cells 121)) (h.below ((Below.refl _ _).alloc (Nat.le_refl _) _));obtain ⟨a,c,rfl,hnc,hmax⟩:=h.shape;obtain ⟨_,_,_,hel⟩:=h.elem;have HC:=hU hat;have HEL:=hU hel;clear hat hel h;have hfz:∀ x ∈ (Proc.zero.cells).toList,x.oneCell'=true:=dK _;rcases uD (fun p=> p.pid==pid) l with ⟨k,hi,hf,hk⟩|⟨hi,hf⟩
 · rw [hi] at HC;obtain ⟨x,hx⟩:∃ x,l[k]? =some x:=⟨_,List.getElem?_eq_getElem hk⟩
   have hfx:find l pid=some x:=by rw [find,hf,hx]
   rw [hfx];obtain ⟨b,off,rfl,hbl,aC⟩:=HEL.out k x hx;have hcells:=fun W' hb=> aC W' hb;have HX1:=hU (dK x);have HXS:Hid (x.cells.size=26):=hU rfl;have HCELL:=hU hcells;clear hcells aC hx hf hi HEL hfx;show Calls _ _ _ _ (aN (.tuple #[.agg x.cells,.bool true]) w)
   generalize x.cells=xc at *;go_in
   repeat' (first
    |(go_at_call 118;refine HC.out.mono ?_;rintro e w1 ⟨rfl,hb1⟩;(have hz1:=hb1.size);simp at hz1;(have HN:=hU ((hb1.block w.heap.size (by simp)).trans (fZ w _)));(have HB1:=hU (Below.to ((Below.refl w.heap.size w).alloc (Nat.le_refl _) _) hb1));clear hb1 HC;dsimp only)
    |(refine aE rfl rfl rfl (cA aL HXS.out (HCELL.out _ HB1.out)) ?_)
    |(refine aK (v:=.agg xc) rfl rfl rfl rfl aL.size HN.out HXS.out (Nat.le_refl 26) HX1.out (eD (by rw [show (Value.agg xc).cells.size=26 from HXS.out];rfl)) ?_;intro W2 hp2;(have HN2:=hU hp2.at_);(have HB2:=hU (Below.put HB1.out hp2 (Nat.le_refl _)));clear hp2)
    |go_values|go_skip|go_guarded|refine wg ?_|go_step|go_upon)
   (try simp only [Exit.inBlock,Exit.then]);refine bodyPost_ret (aT results81 aL rfl HN2.out HXS.out) rfl ?_
   exact ⟨rfl,HB2.out⟩
 · rw [hi] at HC;have hfx:find l pid=none:=by rw [find,hf]
   rw [hfx];clear hf hi HEL hfx;show Calls _ _ _ _ (aN (.tuple #[.agg Proc.zero.cells,.bool false]) w)
   go_in
   repeat' (first
    |(go_at_call 118;refine HC.out.mono ?_;rintro e w1 ⟨rfl,hb1⟩;(have hz1:=hb1.size);simp at hz1;(have HN:=hU ((hb1.block w.heap.size (by simp)).trans (fZ w _)));(have HB1:=hU (Below.to ((Below.refl w.heap.size w).alloc (Nat.le_refl _) _) hb1));clear hb1 HC;dsimp only)
    |(refine aK (v:=.agg Proc.zero.cells) rfl rfl rfl rfl aL.size HN.out rfl (Nat.le_refl 26) (dK _) (eD rfl) ?_;intro W2 hp2;(have HN2:=hU hp2.at_);(have HB2:=hU (Below.put HB1.out hp2 (Nat.le_refl _)));clear hp2)
    |go_values|go_skip|go_guarded|refine wg ?_|go_step|go_upon)
   (try simp only [Exit.inBlock,Exit.then]);refine bodyPost_ret (aT results81 aL rfl HN2.out rfl) rfl ?_
   exact ⟨rfl,HB2.out⟩
theorem qAs {α:Type} {l:List α} {pr:α→Bool} {k:Nat} (h:idx l pr=(k:Int)):l.findIdx? pr=some k:=by
 unfold idx at h;cases hf:l.findIdx? pr with
 |none=> rw [hf] at h;simp at h
 |some k'=>
  rw [hf] at h;have h:(k':Int)=(k:Int):=h;rw [show k'=k by omega]
theorem uF {α:Type} {l:List α} {pr:α→Bool} (h:idx l pr= -1):l.findIdx? pr=none:=by
 unfold idx at h;cases hf:l.findIdx? pr with
 |none=> rfl
 |some k'=> rw [hf] at h;simp at h
theorem qTf {l:List Proc} {p:Proc} {k:Nat} (h:idx l (fun x=> x.pid==p.pid)=(k:Int)):put l p=l.set k p:=by
 unfold put;rw [qAs h]
theorem qTe {l:List Proc} {p:Proc} {k:Nat} (h:idx l (fun x=> x.pid==p.pid)= -1) (h2:idx l (fun x=> decide (p.pid<x.pid))=(k:Int)):put l p=ins l k p:=by
 unfold put;rw [uF h,qAs h2]
theorem qTd {l:List Proc} {p:Proc} (h:idx l (fun x=> x.pid==p.pid)= -1) (h2:idx l (fun x=> decide (p.pid<x.pid))= -1):put l p=l ++ [p]:=by
 unfold put;rw [uF h,uF h2]
theorem qDp (v:Value) (l:List Proc) (pid:Int) (w:World) (h:SlP w v l) (hn:l.length≤34359738368):
 Calls prog 142 #[v,.int .i64 pid] w (fun e w'=> ∃ v',e=.returned v'∧OwnP w.heap.size w' v' (remove l pid)∧Below w.heap.size w w'):=by
 have HC:=hU (xA v l (w.alloc (.cells #[.int .i64 pid] 3)) (h.below ((Below.refl _ _).alloc (Nat.le_refl _) _)) (by omega));obtain ⟨a,c,rfl,_,_⟩:=h.shape;clear h;go_in;refine sg ?_;intros;refine HC.out.mono ?_;rintro e w1 ⟨v1,rfl,hown,hb1⟩;have hz1:=hb1.size;simp at hz1
 have HD:=hU (qSf v1 l (fun p=> p.pid==pid) 201 (.pointer (some ⟨w.heap.size,0,none⟩)) (w.alloc (.cells #[.int .i64 pid] 3)).heap.size w1 hown (by simpa using hz1) qLr
  (fun x W hb=> qTg x w.heap.size pid W ((hb.cell (p:=⟨w.heap.size,0,none⟩) (by simp)).trans ((hb1.cell (p:=⟨w.heap.size,0,none⟩) (by simp)).trans (by go_simp))) (Nat.lt_of_lt_of_le hz1 hb.size)))
 have HB1:=hU (Below.to ((Below.refl w.heap.size w).alloc (Nat.le_refl _) _) hb1);obtain ⟨a1,c1,rfl,_,_⟩:=(hown.sl eE).shape;clear hown hb1;dsimp only;repeat' (first|(go_at_call 200;refine HD.out.mono ?_;rintro e w2 ⟨v2,rfl,hown2,hb2⟩;dsimp only)|go_values|go_skip|go_guarded|refine wg ?_|go_step|go_upon)
 go_ret;exact ⟨_,rfl,Own.mono hown2 (by simp),HB1.out.trans (hb2.mono (by simp))⟩
theorem uV (v:Value) (l:List Proc) (p:Proc) (w:World) (h:SlP w v l) (hn:l.length≤34359738368):
 Calls prog 78 #[v,.agg p.cells] w (fun e w'=> ∃ v',e=.returned v'∧OwnP w.heap.size w' v' (put l p)∧Below w.heap.size w w'):=by
 have HC:=hU (xA v l (w.alloc (.cells p.cells 121)) (h.below ((Below.refl _ _).alloc (Nat.le_refl _) _)) (by omega));obtain ⟨a,c,rfl,_,_⟩:=h.shape;have h0:p.cells[0]? =some (.int .i64 p.pid):=rfl;have HX1:=hU (dK p);have HXS:Hid (p.cells.size=26):=hU rfl;have HSET:=hU (fun (W W':World) (g cp k:Nat) (cu:Array Value) (hr:Row 121 26 Proc.cells W g cp l cu) (hk:k<l.length) (hp:Put g (aQ cu (k * 26) p.cells) 121 W W')=> Row.set eE hr (i:=k) hk rfl hp);have HINS:=hU (fun (v:Value) (i B xb:Nat) (w:World) (h:OwnP B w v l) (hB:B≤w.heap.size) (hx:w.heap[xb]? =some (.cells p.cells 121 (0,0))) (hne:v.ownBlock ≠ some xb) (hi:i≤l.length)=> qSq v l i p B xb w h hB hx hne hi hn);have HEND:=hU (fun (v:Value) (B xb:Nat) (w:World) (h:OwnP B w v l) (hB:B≤w.heap.size) (hx:w.heap[xb]? =some (.cells p.cells 121 (0,0)))=> qHw v l p B xb w h hB hx hn);clear h;generalize p.cells=xc at *;go_in;refine sg ?_;intros;refine HC.out.mono ?_;rintro e w1 ⟨v1,rfl,hown,hb1⟩;have hz1:=hb1.size;simp at hz1;have HP1:=hU ((hb1.block w.heap.size (by simp)).trans (fZ w (.cells xc 121)));have hc1:w1.cell? ⟨w.heap.size,0,none⟩=some (.int .i64 p.pid):=(aC HP1.out 0).trans h0;have HB1:=hU (Below.to ((Below.refl w.heap.size w).alloc (Nat.le_refl _) _) hb1);have HA:=hU (atP v1 l p.pid w1 (hown.sl eE));have HO:=hU (Own.mono (B':=w.heap.size) hown (by simp))
 have hv1:v1.ownBlock ≠ some w.heap.size:=fun e=> by
  have:=(World.ownsRow.lt hown _ e).1
  simp at this;omega
 have HV1:=hU hv1;obtain ⟨a1,c1,rfl,_,_⟩:=(hown.sl eE).shape;clear hown hb1 HC hv1;dsimp only;rcases uD (fun x=> x.pid==p.pid) l with ⟨k,hi,_,hk⟩|⟨hi,_⟩
 · have hput:=qTf hi;rw [hi] at HA;obtain ⟨g,cp,cur,he,hBg,hrow⟩:=HO.out.row (by intro e;subst e;simp at hk);injection he with ha _ hc
   subst ha hc;have hgl:=hlt hrow.1;have HROW:=hU hrow
   have hfit:k * 26 + 26≤cur.size:=by
    rw [hrow.2.2.2.1]
    have:(k + 1) * 26≤c1 * 26:=Nat.mul_le_mul_right _ (by have:=hrow.2.1;omega)
    omega
   have HFIT:=hU hfit;have hgne:g ≠ w.heap.size:=fun e=> HV1.out (by rw [e];rfl);clear hrow hfit HINS HEND
   repeat' (first
    |(go_at_call 118;refine HA.out.mono ?_;rintro e w2 ⟨rfl,hb2⟩;(have hz2:=hb2.size);(have HP2:=hU ((hb2.block w.heap.size (by omega)).trans HP1.out));(have HR2:=hU (HROW.out.same (hb2.block g hgl)));(have HB2:=hU (Below.to HB1.out hb2));clear hb2 HA hc1;dsimp only)
    |(refine aE rfl rfl rfl (aD aL HP2.out HXS.out) ?_)
    |(refine aK (v:=.agg xc) rfl rfl rfl rfl aL.size HR2.out.1 HXS.out HFIT.out HX1.out rfl ?_;intro W3 hp3;(have HR3:=hU (HSET.out w2 W3 g _ k cur HR2.out hk hp3));(have HB3:=hU (Below.put HB2.out hp3 hBg));clear hp3)
    |go_values|go_skip|go_guarded|refine wg ?_|go_step|go_upon)
   go_ret;have hown:=HR3.out.own eE hBg;rw [List.length_set] at hown;rw [hput];exact ⟨_,rfl,hown,HB3.out⟩
 · rw [hi] at HA;have HI:=hU hi;clear hi HSET;refine sg ?_;intros;refine HA.out.mono ?_;rintro e w2 ⟨rfl,hb2⟩;have hz2:=hb2.size;have HP2:=hU ((hb2.block w.heap.size (by omega)).trans HP1.out);have HO2:=hU (cY HO.out hb2);have HB2:=hU (Below.to HB1.out hb2);clear hb2 HA hc1;dsimp only
   have HF:=hU (qEc _ l (fun x=> decide (p.pid<x.pid)) 120 (.pointer (some ⟨w.heap.size,0,none⟩)) w2 (HO2.out.sl eE) qWt
    (fun x W hb=> put1 x w.heap.size p.pid W ((hb.cell (p:=⟨w.heap.size,0,none⟩) (show w.heap.size<w2.heap.size by omega)).trans ((aC HP2.out 0).trans h0)) (by have:=hb.size;omega)))
   rcases uD (fun x=> decide (p.pid<x.pid)) l with ⟨k,hi,_,hk⟩|⟨hi,_⟩
   · have hput2:=qTe HI.out hi;rw [hi] at HF;clear hi HI
     repeat' (first
      |(go_at_call 119;refine HF.out.mono ?_;rintro e w3 ⟨rfl,hb3⟩;(have hz3:=hb3.size);(have HP3:=hU ((hb3.block w.heap.size (by omega)).trans HP2.out));(have HO3:=hU (cY HO2.out hb3));(have HB3:=hU (Below.to HB2.out hb3));clear hb3 HF;dsimp only)
      |(refine aE rfl rfl rfl (aD aL HP3.out HXS.out) ?_)
      |(refine cZ (v:=.agg xc) rfl _ rfl rfl underlying26 aL.size qBt rfl (by decide) (by decide) HXS.out ?_)
      |go_values|go_skip|go_guarded|refine wg ?_|go_step|go_upon)
     have HO4:=cY HO3.out ((Below.refl w3.heap.size w3).alloc (Nat.le_refl _) (.cells xc 121));refine (HINS.out _ k w.heap.size w3.heap.size _ HO4 (by simp;omega) (fZ w3 _) (fun e=> by have:=(World.ownsRow.lt HO3.out _ e).2;omega) (by omega)).mono ?_;rintro e w5 ⟨v5,rfl,hown5,hb5⟩;have HO5:=hU hown5;have HB5:=hU ((Below.to HB3.out ((Below.refl w3.heap.size w3).alloc (Nat.le_refl _) _)).trans hb5);clear hown5 hb5 HO4;dsimp only;refine sg ?_;intros;go_ret;rw [hput2];exact ⟨_,rfl,HO5.out,HB5.out⟩
   · have hput2:=qTd HI.out hi;rw [hi] at HF;clear hi HI;refine sg ?_;intros;refine HF.out.mono ?_;rintro e w3 ⟨rfl,hb3⟩;have hz3:=hb3.size;have HP3:=hU ((hb3.block w.heap.size (by omega)).trans HP2.out);have HO4:=cY (cY HO2.out hb3) ((Below.refl w3.heap.size w3).alloc (Nat.le_refl _) (.cells xc 121));obtain ⟨v5,w5,hrun,hown5,hb5⟩:=HEND.out _ w.heap.size w3.heap.size _ HO4 (by simp;omega) (fZ w3 _);have HRUN:=hU hrun;have HO5:=hU hown5;have HB5:=hU ((Below.to (Below.to HB2.out hb3) ((Below.refl w3.heap.size w3).alloc (Nat.le_refl _) _)).trans hb5);clear hb3 HF HO4 hrun hown5 hb5;dsimp only
     repeat' (first
      |(refine aE rfl rfl rfl (aD aL HP3.out HXS.out) ?_)
      |(refine cZ (v:=.agg xc) rfl _ rfl rfl underlying26 aL.size qBt rfl (by decide) (by decide) HXS.out ?_)
      |(at_builtin;refine cV _ rfl _ _ _ _ rfl _ _ rfl rfl _ _ HRUN.out ?_)
      |go_values|go_skip|go_guarded|refine wg ?_|go_step|go_upon)
     go_ret;rw [hput2];exact ⟨_,rfl,HO5.out,HB5.out⟩
def qVh (w:World) (l:List Proc) (mv iv:Value) (wr:World):Prop:=∃ k:Nat,k≤l.length∧iv=.int .i64 k∧mv=.int .i64 (most (l.take k) 0)∧Below w.heap.size w wr
theorem qLz (l:List Proc) (p:Proc) (m:Int):most (l ++ [p]) m=max (most l m) p.pid:=by simp [most]
theorem qJz {b:Int}:∀ (l:List Proc) (m:Int),(∀ p ∈ l,p.pid≤b)→m≤b→most l m≤b
 |[],m,_,h=> h
 |p::l,m,hl,h=> by
  show most l (max m p.pid)≤b
  exact qJz l _ (fun q hq=> hl q (by simp [hq])) (by have:=hl p (by simp);omega)
theorem qJy:∀ (l:List Proc) (m:Int),m≤most l m
 |[],m=> Int.le_refl _
 |p::l,m=> by
  show m≤most l (max m p.pid)
  exact Int.le_trans (by omega) (qJy l _)
theorem Next (v:Value) (l:List Proc) (w:World) (h:SlP w v l) (hp:∀ p ∈ l,p.pid≤4611686018427387904):
 Calls prog 75 #[v] w (aN (.int .i64 (next l)) w):=by
 obtain ⟨a,c,rfl,hnc,hmax⟩:=h.shape;obtain ⟨_,_,_,hel⟩:=h.elem;have HEL:=hU hel;clear hel h;go_in;refine sg ?_;intros;go_loopw [3,8] (fun mv iv wr=> qVh w l mv iv wr) (fun _ iv _=> l.length - (intOf iv).toNat)
 case atStart=> exact ⟨0,Nat.zero_le _,rfl,rfl,Below.refl _ _⟩
 case round=>
  obtain ⟨k,hk,rfl,rfl,hb⟩:=hrel;have HB:=hU hb;clear hb;have hm1:=qJy (l.take k) 0;have hm2:=qJz (l.take k) 0 (fun p hpm=> hp p (List.mem_of_mem_take hpm)) (by decide);by_cases hlt:k<l.length
  · obtain ⟨x,hx⟩:∃ x,l[k]? =some x:=⟨_,List.getElem?_eq_getElem hlt⟩
    obtain ⟨b,off,rfl,hbl,aC⟩:=HEL.out k x hx;have htk:=(cD hx).1;have HCELL:=hU (aC wr HB.out);have h0:x.cells[0]? =some (.int .i64 x.pid):=rfl;have HX1:=hU (dK x);have HXS:Hid (x.cells.size=26):=hU rfl;have HM:=hU (qLz (l.take k) x 0);rw [← htk] at HM;generalize hm:most (l.take k) 0=m at *;clear aC hx htk;generalize x.cells=xc at *
    repeat' (first
     |(refine aE rfl rfl rfl (cA aL HXS.out HCELL.out) ?_)
     |(refine aK (v:=.agg xc) rfl rfl rfl rfl aL.size (fZ wr _) HXS.out (by simp) HX1.out (eD (by rw [show (Value.agg xc).cells.size=26 from HXS.out];rfl)) ?_;intro W1 hp1;(have hc1:W1.cell? ⟨wr.heap.size,0,none⟩=some (.int .i64 x.pid):=(aC hp1.at_ 0).trans h0);(have HB1:=hU (Below.to HB.out (Below.put ((Below.refl wr.heap.size wr).alloc (Nat.le_refl _) _) hp1 (Nat.le_refl _))));clear hp1)
     |go_values|go_skip|go_guarded|refine wg ?_|go_step|go_upon)
    exact ⟨⟨k + 1,by omega,by go_num,by rw [HM.out,Int.max_def];congr 1;split <;> split <;> omega,HB1.out⟩,by simp [intOf];omega⟩
  · obtain rfl:k=l.length:=by omega
    rw [List.take_length] at *;refine sg ?_;intros;go_ret;exact ⟨by rw [next];rfl,HB.out⟩
def qNa (w:World) (l:List Proc) (src dst:Int) (v:Value) (iv:Value) (wr:World):Prop:=∃ k:Nat,k≤l.length∧iv=.int .i64 k∧OwnP w.heap.size wr v (dQ (l.take k) src dst ++ l.drop k)∧Below w.heap.size w wr
theorem gH (l:List Proc) (a b:Int):(dQ l a b).length=l.length:=by simp [dQ]
theorem qAg {l:List Proc} {a b:Int} {k:Nat} {x:Proc} (hx:l[k]? =some x):dQ (l.take (k + 1)) a b=dQ (l.take k) a b ++ [if x.par=a then {x with par:=b} else x]:=by
 rw [(cD hx).1];simp [dQ]
theorem qKx {l:List Proc} {a b:Int} {k:Nat} {x:Proc} (hx:l[k]? =some x) (h:x.par=a):(dQ (l.take k) a b ++ l.drop k).set k {x with par:=b}=dQ (l.take (k + 1)) a b ++ l.drop (k + 1):=by
 have hk:=(List.getElem?_eq_some_iff.1 hx).1;rw [qAg hx,if_pos h,(cD hx).2,List.set_append_right _ _ (by rw [gH,List.length_take];omega),gH,List.length_take,Nat.min_eq_left (Nat.le_of_lt hk),Nat.sub_self,List.set_cons_zero,List.append_assoc];rfl
theorem qOk {l:List Proc} {a b:Int} {k:Nat} {x:Proc} (hx:l[k]? =some x) (h:¬ x.par=a):dQ (l.take k) a b ++ l.drop k=dQ (l.take (k + 1)) a b ++ l.drop (k + 1):=by
 rw [qAg hx,if_neg h,(cD hx).2,List.append_assoc];rfl
theorem qVt (v:Value) (l:List Proc) (src dst:Int) (w:World) (h:SlP w v l) (hn:l.length≤34359738368):
 Calls prog 141 #[v,.int .i64 src,.int .i64 dst] w (fun e w'=> ∃ v',e=.returned v'∧OwnP w.heap.size w' v' (dQ l src dst)∧Below w.heap.size w w'):=by
 have HC:=hU (xA v l w h (by omega));obtain ⟨a,c,rfl,_,_⟩:=h.shape;clear h;go_in;refine sg ?_;intros;refine HC.out.mono ?_;rintro e w1 ⟨v1,rfl,hown,hb1⟩;obtain ⟨a1,c1,rfl,hlc1,hc1m⟩:=(hown.sl eE).shape;have HOWN:=hU hown;have HB:=hU hb1;clear hown hb1 HC;dsimp only;refine sg ?_;intros;go_loopw [12] (fun iv wr=> qNa w l src dst (.slice a1 l.length c1) iv wr) (fun iv _=> l.length - (intOf iv).toNat)
 case atStart=> exact ⟨0,Nat.zero_le _,rfl,by simpa [dQ] using HOWN.out,HB.out⟩
 case round=>
  clear HOWN HB;obtain ⟨k,hk,rfl,hown,hb⟩:=hrel;have HB:=hU hb;have HOWN:=hU hown;have hlen:(dQ (l.take k) src dst ++ l.drop k).length=l.length:=by rw [List.length_append,gH,List.length_take,List.length_drop];omega
  clear hb hown;by_cases hlt:k<l.length
  · obtain ⟨x,hx⟩:∃ x,l[k]? =some x:=⟨_,List.getElem?_eq_getElem hlt⟩
    have hget:(dQ (l.take k) src dst ++ l.drop k)[k]? =some x:=by
     rw [List.getElem?_append_right (by rw [gH,List.length_take];omega),gH,List.length_take,Nat.min_eq_left (Nat.le_of_lt hlt),Nat.sub_self,List.getElem?_drop,Nat.add_zero];exact hx
    obtain ⟨g,cp,cur,he,hBg,hrow⟩:=HOWN.out.row (by intro e;rw [e] at hlen;simp at hlen;omega);injection he with ha hnn hcc
    clear hnn;subst ha hcc;have HROW:=hU hrow;have hc:=hrow.get eE hget 1 (.int .i64 x.par) rfl
    have hfit:k * 26 + 26≤cur.size:=by
     rw [hrow.2.2.2.1]
     have:(k + 1) * 26≤c1 * 26:=Nat.mul_le_mul_right _ (by omega)
     omega
    have HLEN:=hU hlen;clear hrow hlen;by_cases hp:x.par=src
    · have hpe:(x.par==src)=true:=by simpa using hp
      have HY:=hU (qKx (b:=dst) hx hp);have HSET:=hU (fun (W':World) (new:Array Value) (hn:aQ cur (k * 26) ({x with par:=dst}:Proc).cells=new) (hp:Put g new 121 wr W')=> Row.set eE HROW.out (i:=k) (x:={x with par:=dst}) (by rw [HLEN.out];exact hlt) hn hp);have HSP:Hid (aQ cur (k * 26 + 1) #[.int .i64 dst]=aQ cur (k * 26) ({x with par:=dst}:Proc).cells):=hU (pQ (f:=Proc.cells) (x:=x) (j:=1) (by rw [eE];exact hfit) (by rw [eE];decide) (HROW.out.get eE hget) HROW.out.1 rfl);clear hget hx
      repeat' (first
       |(refine aK (v:=.int .i64 dst) (off:=k * 26 + 1) rfl rfl rfl rfl cO.size HROW.out.1 rfl (by omega) (gJ dst) HSP.out ?_;intro W2 hp2;(have HR2:=hU (HSET.out W2 _ rfl hp2));(have HB2:=hU (Below.put HB.out hp2 hBg));clear hp2)
       |go_values|go_skip|go_guarded|refine wg ?_|go_step|go_upon)
      refine ⟨⟨k + 1,by omega,by go_num,?_,HB2.out⟩,by simp [intOf];omega⟩;have hr:=HR2.out;rw [HY.out] at hr;have ho:=hr.own eE hBg;rwa [show (dQ (l.take (k + 1)) src dst ++ l.drop (k + 1)).length=l.length by rw [List.length_append,gH,List.length_take,List.length_drop];omega] at ho
    · have hpe:(x.par==src)=false:=by simpa using hp
      have HN:=hU (qOk (b:=dst) hx hp);refine sg ?_;intros;refine ⟨⟨k + 1,by omega,by go_num,?_,HB.out⟩,by simp [intOf];omega⟩;rw [← HN.out];exact HOWN.out
  · obtain rfl:k=l.length:=by omega
    refine sg ?_;intros;go_ret;have ho:=HOWN.out;rw [List.take_length,List.drop_length,List.append_nil] at ho;exact ⟨_,rfl,ho,HB.out⟩
