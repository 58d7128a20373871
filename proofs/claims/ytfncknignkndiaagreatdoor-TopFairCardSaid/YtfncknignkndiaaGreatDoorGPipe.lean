/- pipe.Read. Condition: the number is an integer. Conditions: as told. -/
import Derived.Test.YtfncknignkndiaaGreatDoorGTurn
set_option linter.unusedVariables false
set_option maxRecDepth 100000
set_option maxHeartbeats 8000000
set_option linter.unusedSimpArgs false
namespace Go.Proofs.YtfncknignkndiaaGreatDoor
open Tryz
open Go.RowKit KR
namespace Kn
theorem qFl {s:ByteArray} (h:s.size=0):s=ByteArray.empty:=by
 cases s with
 |mk d=>
  have:d=#[]:=Array.eq_empty_of_size_eq_zero h
  rw [this];rfl
theorem qUg {s:ByteArray} (h:¬ s.size=0):(s.toList==([]:List UInt8))=false:=by
 cases hb:(s.toList==([]:List UInt8))
 · rfl
 · exfalso
   apply h;rw [ByteArray.toList_eq] at hb;have h2:s.data.toList=[]:=by simpa using hb
   have:s.data=#[]:=by simpa using h2
   show s.data.size=0
   rw [this];rfl
def qNn (p:cG) (n:Int):Value:=.tuple #[.agg (pread p n).1.cells,.string (pread p n).2.1,.int .i64 (pread p n).2.2]
theorem qYs (p:cG) (n:Int) (w:World) (hd:p.data.size≤140737488355328):Calls prog 218 #[.agg p.cells,.int .i64 n] w (aN (qNn p n) w):=by
 obtain ⟨data,rd,wr⟩:=p;unfold qNn;dsimp only at hd;by_cases hn:n<0
 · have h1:pread ⟨data,rd,wr⟩ n=(⟨data,rd,wr⟩,ByteArray.empty,1):=by unfold pread;rw [if_pos hn]
   rw [h1];unfold cG.cells;go_in;refine sg ?_;intros;(apply bodyPost_ret;(simp only [results,results218];go_simp;exact rfl);rfl)
   exact ⟨rfl,bel⟩
 · by_cases he:data.size=0
   · obtain rfl:=qFl he;by_cases hw:0<n∧0<wr
     · have h1:pread ⟨ByteArray.empty,rd,wr⟩ n=(⟨ByteArray.empty,rd,wr⟩,ByteArray.empty,6):=by unfold pread;rw [if_neg hn,if_pos ⟨hw.1,he,hw.2⟩]
       rw [h1];obtain ⟨hw1,hw2⟩:=hw;unfold cG.cells;go_in;refine sg ?_;intros
       all_goals
        (apply bodyPost_ret;(simp only [results,results218];go_simp;exact rfl);rfl)
        exact ⟨rfl,bel⟩
     · have h1:pread ⟨ByteArray.empty,rd,wr⟩ n=(⟨ByteArray.empty,rd,wr⟩,ByteArray.empty,0):=by unfold pread;rw [if_neg hn,if_neg (fun h=> hw ⟨h.1,h.2.2⟩),if_pos (.inr he)]
       rw [h1];unfold cG.cells;go_in;repeat' (first|go_values|go_skip|go_guarded|refine wg ?_|go_step|go_upon)
       all_goals
        (apply bodyPost_ret;(simp only [results,results218];go_simp;exact rfl);rfl)
        exact ⟨rfl,bel⟩
   · have hne:=qUg he;by_cases hz:n=0
     · subst hz;have h1:pread ⟨data,rd,wr⟩ 0=(⟨data,rd,wr⟩,ByteArray.empty,0):=by unfold pread;rw [if_neg hn,if_neg (fun h=> he h.2.1),if_pos (.inl rfl)]
       rw [h1];unfold cG.cells;go_in;refine sg ?_;intros
       all_goals
        (apply bodyPost_ret;(simp only [results,results218];go_simp;exact rfl);rfl)
        exact ⟨rfl,bel⟩
     · obtain ⟨N,rfl⟩:=Int.eq_ofNat_of_zero_le (show 0≤n by omega);have hpos:(0:Int)<(N:Int):=by omega
       have hnz:((N:Int)==0)=false:=by simp;omega
       by_cases hle:N≤data.size
       · have h1:pread ⟨data,rd,wr⟩ N=(⟨data.extract N data.size,rd,wr⟩,data.extract 0 N,0):=by
          unfold pread;rw [if_neg hn,if_neg (fun h=> he h.2.1),if_neg (fun h=> h.elim hz he),Int.toNat_natCast,Nat.min_eq_left hle]
         rw [h1];have hlt:¬ (data.size:Int)<(N:Int):=by omega
         have hle':(N:Int)≤(data.size:Int):=by omega
         unfold cG.cells;go_in;refine sg ?_;intros
         all_goals
          (apply bodyPost_ret;(simp only [results,results218];go_simp;exact rfl);rfl)
          exact ⟨rfl,bel⟩
       · have h1:pread ⟨data,rd,wr⟩ N=(⟨ByteArray.empty,rd,wr⟩,data,0):=by
          unfold pread;rw [if_neg hn,if_neg (fun h=> he h.2.1),if_neg (fun h=> h.elim hz he),Int.toNat_natCast,Nat.min_eq_right (show data.size≤N by omega)];simp
         rw [h1];have hlt:(data.size:Int)<(N:Int):=by omega
         unfold cG.cells;go_in;refine sg ?_;intros
         all_goals
          (apply bodyPost_ret;(simp only [results,results218];go_simp;exact rfl);rfl)
          exact ⟨rfl,bel⟩
def qJi (p:cG) (s:ByteArray):Value:=.tuple #[.agg (pwrite p s).1.cells,.int .i64 (pwrite p s).2.1,.int .i64 (pwrite p s).2.2]
theorem qVj (p:cG) (s:ByteArray) (w:World) (hd:p.data.size≤1000000) (hs:s.size≤140737488355328):Calls prog 217 #[.agg p.cells,.string s] w (aN (qJi p s) w):=by
 obtain ⟨data,rd,wr⟩:=p;unfold qJi;dsimp only at hd;have hw8:IntKind.i64.wrap (8 - (data.size:Int))=8 - (data.size:Int):=by rw [IntKind.wrap_i64];omega
 by_cases he:s.size=0
 · obtain rfl:=qFl he;have h1:pwrite ⟨data,rd,wr⟩ ByteArray.empty=(⟨data,rd,wr⟩,0,0):=by unfold pwrite;rw [if_pos he]
   rw [h1];unfold cG.cells;go_in;refine sg ?_;intros
   all_goals
    (apply bodyPost_ret;(simp only [results,results217];go_simp;exact rfl);rfl)
    exact ⟨rfl,bel⟩
 · have hne:=qUg he;by_cases hr:rd≤0
   · have h1:pwrite ⟨data,rd,wr⟩ s=(⟨data,rd,wr⟩,0,14):=by unfold pwrite;rw [if_neg he,if_pos hr]
     rw [h1];unfold cG.cells;go_in;refine sg ?_;intros
     all_goals
      (apply bodyPost_ret;(simp only [results,results217];go_simp;exact rfl);rfl)
      exact ⟨rfl,bel⟩
   · by_cases h8:8≤data.size
     · have h1:pwrite ⟨data,rd,wr⟩ s=(⟨data,rd,wr⟩,0,6):=by unfold pwrite;rw [if_neg he,if_neg hr,if_pos h8]
       have h8I:(8:Int) - (data.size:Int)≤0:=by omega
       rw [h1];unfold cG.cells;go_in;refine sg ?_;intros
       all_goals
        (apply bodyPost_ret;(simp only [results,results217];go_simp;exact rfl);rfl)
        exact ⟨rfl,bel⟩
     · have h8I:¬ (8:Int) - (data.size:Int)≤0:=by omega
       obtain ⟨m,hm⟩:∃ m:Nat,m=min (8 - data.size) s.size:=⟨_,rfl⟩
       have h1:pwrite ⟨data,rd,wr⟩ s=(⟨data ++ s.extract 0 m,rd,wr⟩,(m:Int),0):=by unfold pwrite;rw [if_neg he,if_neg hr,if_neg h8,hm]
       rw [h1];have hms:m≤s.size:=by omega
       have hmI:(m:Int)≤(s.size:Int):=by omega
       have hmin:(if (s.size:Int)<8 - (data.size:Int) then (s.size:Int) else 8 - (data.size:Int))=(m:Int):=by split <;> omega
       clear hm;obtain ⟨q0,q1⟩:=eF w w.heap.size (.cells #[.string data,.int .i64 rd,.int .i64 wr] 191) (.cells #[.string ByteArray.empty,.int .i64 0,.int .i64 0] 191) rfl;have HT:=hU q0;have HR:=hU q1;have HB1:Hid (Below w.heap.size w ((w.alloc (.cells #[.string data,.int .i64 rd,.int .i64 wr] 191)).alloc (.cells #[.string ByteArray.empty,.int .i64 0,.int .i64 0] 191))):=hU bel;clear q0 q1;have hext:(s.extract 0 m).size=m:=by rw [ByteArray.size_extract];omega
       have hjoin:¬ 9223372036854775807<data.size + m:=by omega
       unfold cG.cells;go_in;refine sg ?_;intros;(try rw [hmin])
       refine wp_region_noPanic ?_;refine RegTail.jD (st:=[7]) (S:=fun W=> W.cell? ⟨w.heap.size,0,none⟩=some (.string data)) (by kernel_rfl) ?_;have hS:(fun W:World=> W.cell? ⟨w.heap.size,0,none⟩=some (.string data)) ((w.alloc (.cells #[.string data,.int .i64 rd,.int .i64 wr] 191)).alloc (.cells #[.string ByteArray.empty,.int .i64 0,.int .i64 0] 191)).drew:=aC HT.out 0;(refine RegTail.tl 0 ?_);(try simp only [RegT3.aF])
       (refine RegTail.tl 1 ?_);(try simp only [RegT3.aF])
       (refine RegTail.tl 2 ?_);(try simp only [RegT3.aF])
       (refine RegTail.tl 3 ?_);(try simp only [RegT3.aF])
       (refine RegTail.tl 4 ?_);(try simp only [RegT3.aF])
       (refine RegTail.tl 5 ?_);(try simp only [RegT3.aF])
       (refine RegTail.tl 6 ?_);(try simp only [RegT3.aF])
       (refine RegTail.ro 7 fun K hK=> ?_)
       refine RegTail.want rfl ?_;refine cL (v:=.string (data ++ s.extract 0 m)) (off:=0) (new:=#[.string (data ++ s.extract 0 m),.int .i64 rd,.int .i64 wr]) rfl rfl rfl pI.size HT.out rfl (by simp) (qTa _) rfl ?_;intro W4 hp4;have HT4:=hU hp4.at_;have HR4:=hU ((hp4.oth (w.heap.size + 1) (by simp)).trans HR.out);have HB4:=hU (Below.put (Below.drew HB1.out) hp4 (Nat.le_refl _));clear hp4;refine hK.out _ _ (fun h=> absurd h (by decide)) ?_;clear hK K hS;refine RegTail.aZ (by kernel_rfl) (NoPanic.normal ?_) _;generalize hjj:data ++ s.extract 0 m=j at *
       repeat' (first
        |(refine aE rfl rfl rfl (aD iD HT4.out rfl) ?_)
        |(refine aK (v:=.agg #[.string j,.int .i64 rd,.int .i64 wr]) (off:=0) (new:=#[.string j,.int .i64 rd,.int .i64 wr]) rfl rfl rfl rfl iD.size HR4.out rfl (by simp) (uJ ⟨j,rd,wr⟩) rfl ?_;intro W5 hp5;(have HR5:=hU hp5.at_);(have HB5:=hU (Below.put HB4.out hp5 (by omega)));clear hp5)
        |go_values|go_skip|go_guarded|refine wg ?_|go_step|go_upon)
       (try simp only [Exit.inBlock,Exit.then]);refine bodyPost_ret (lS results217 iD rfl HR5.out rfl) rfl ?_
       exact ⟨rfl,HB5.out⟩
abbrev SlPp (W:World) (v:Value) (l:List cG):Prop:=Sl 191 3 cG.cells W v l
def qQz (l:List cG) (w:World) (e:Ending) (w':World):Prop:=∃ v,e=.returned v∧SlPp w' v l∧Below w.heap.size w w'
theorem qIc (l:List cG) (k:Nat) (f:cG→cG) (x:cG) (hx:l[k]? =some x):l.modify k f=l.set k (f x):=by
 apply List.ext_getElem?;intro i;rw [List.getElem?_modify,List.getElem?_set];by_cases h:k=i
 · subst h;have:=(List.getElem?_eq_some_iff.1 hx).1
   rw [hx,if_pos rfl,if_pos this];simp
 · simp [h]
theorem lZ (v:Value) (l:List cG) (d:Int) (e:Bool) (by_:Int) (w:World) (h:SlPp w v l) (hn:l.length≤34359738368) (hby: -10≤by_∧by_≤10) (hb:∀ p ∈ l, -4611686018427387904≤p.rd∧p.rd≤4611686018427387904∧ -4611686018427387904≤p.wr∧p.wr≤4611686018427387904):
 Calls prog 77 #[v,.agg #[.int .i64 d,.bool e],.int .i64 by_] w (qQz (aM l d e by_) w):=by
 have HS:=hU h;have HCL:=hU (fun W (hb:Below w.heap.size w W)=> sD v l W (h.below hb) (by omega));obtain ⟨a,c,rfl,hnc,hcm⟩:=h.shape;clear h;by_cases hd:d<1
 · have HE:Hid (aM l d e by_=l):=hU (by rw [aM,if_pos (.inl hd)]);go_in;refine sg ?_;intros;go_ret;rw [HE.out];exact ⟨_,rfl,HS.out.below bel,bel⟩
 · by_cases hdl:(l.length:Int)<d
   · have HE:Hid (aM l d e by_=l):=hU (by rw [aM,if_pos (.inr hdl)]);go_in;refine sg ?_;intros;go_ret;rw [HE.out];exact ⟨_,rfl,HS.out.below bel,bel⟩
   · obtain ⟨k,hk⟩:∃ k:Nat,d=(k:Int) + 1:=⟨(d - 1).toNat,by omega⟩
     subst hk;have hkl:k<l.length:=by omega
     obtain ⟨x,hx⟩:∃ x,l[k]? =some x:=⟨_,List.getElem?_eq_getElem hkl⟩
     have hxb:=hb x (List.mem_of_getElem? hx)
     have HE:Hid (aM l ((k:Int) + 1) e by_=l.set k (if e then {x with wr:=x.wr + by_} else {x with rd:=x.rd + by_})):=hU (by
      rw [aM,if_neg (by omega),show ((k:Int) + 1 - 1).toNat=k by omega,qIc l k _ x hx])
     have hw1:IntKind.i64.wrap (x.wr + by_)=x.wr + by_:=by rw [IntKind.wrap_i64];omega
     have hw2:IntKind.i64.wrap (x.rd + by_)=x.rd + by_:=by rw [IntKind.wrap_i64];omega
     have hki:(k:Int)<(l.length:Int):=by omega
     have hg1:¬ (l.length:Int)<(k:Int) + 1:=by omega
     have HX:=hU hx;clear hx hb hxb;go_in;refine sg ?_;intros;refine (HCL.out _ bel).mono ?_;rintro ev w1 ⟨v1,rfl,hown,hb1⟩;have hz1:=hb1.size;simp at hz1;have HB1:=hU (Below.to ((Below.refl w.heap.size w).alloc (Nat.le_refl _) _) hb1);have k0:w1.cell? ⟨w.heap.size,1,none⟩=some (.bool e):=(hb1.cell (p:=⟨w.heap.size,1,none⟩) (by simp)).trans (by go_simp);have k1:w1.cell? ⟨w.heap.size,0,none⟩=some (.int .i64 ((k:Int) + 1)):=(hb1.cell (p:=⟨w.heap.size,0,none⟩) (by simp)).trans (by go_simp);obtain ⟨g,cp,cur,rfl,hBg,hrow⟩:=hown.row (by intro e;subst e;simp at hkl);have hgl:=hlt hrow.1
     have hfit:k * 3 + 3≤cur.size:=by
      rw [hrow.2.2.2.1]
      have:(k + 1) * 3≤cp * 3:=Nat.mul_le_mul_right _ (by have:=hrow.2.1;omega)
      omega
     have c1:=hrow.get fB HX.out 1 (.int .i64 x.rd) rfl;have c2:=hrow.get fB HX.out 2 (.int .i64 x.wr) rfl;have HROW:=hU hrow;simp at hBg;have hw3:IntKind.i64.wrap ((k:Int) + 1 - 1)=(k:Int):=by rw [IntKind.wrap_i64];omega
     have hk3:(k:Int) + 1 - 1=(k:Int):=by omega
     have HSP2:Hid (aQ cur (k * 3 + 2) #[.int .i64 (x.wr + by_)]=aQ cur (k * 3) ({x with wr:=x.wr + by_}:cG).cells):=hU (pQ (f:=cG.cells) (x:=x) (j:=2) (by rw [fB];exact hfit) (by rw [fB];decide) (hrow.get fB HX.out) hrow.1 rfl);have HSP1:Hid (aQ cur (k * 3 + 1) #[.int .i64 (x.rd + by_)]=aQ cur (k * 3) ({x with rd:=x.rd + by_}:cG).cells):=hU (pQ (f:=cG.cells) (x:=x) (j:=1) (by rw [fB];exact hfit) (by rw [fB];decide) (hrow.get fB HX.out) hrow.1 rfl);have HSET:=hU (fun (y:cG) (W':World) (new:Array Value) (hn:aQ cur (k * 3) y.cells=new) (hp:Put g new 191 w1 W')=> (Row.set fB HROW.out (i:=k) (x:=y) hkl hn hp).own fB (B:=w.heap.size + 1) hBg);clear hown hrow hb1 HCL;dsimp only;cases e
     all_goals
      repeat' (first
       |(refine aK (v:=.int .i64 (x.wr + by_)) (off:=k * 3 + 2) rfl rfl rfl rfl cO.size HROW.out.1 rfl (by omega) (gJ _) HSP2.out ?_;intro W2 hp2;(have HO2:=hU (HSET.out _ W2 _ rfl hp2));(have HB2:=hU (Below.put HB1.out hp2 (by omega)));clear hp2)
       |(refine aK (v:=.int .i64 (x.rd + by_)) (off:=k * 3 + 1) rfl rfl rfl rfl cO.size HROW.out.1 rfl (by omega) (gJ _) HSP1.out ?_;intro W2 hp2;(have HO2:=hU (HSET.out _ W2 _ rfl hp2));(have HB2:=hU (Below.put HB1.out hp2 (by omega)));clear hp2)
       |go_values|go_skip|go_guarded|refine wg ?_|go_step|go_upon)
      go_ret;rw [HE.out];have ho:=HO2.out;rw [List.length_set] at ho;exact ⟨_,rfl,ho.sl fB,HB2.out⟩
theorem qZu (x:cG) (W:World):Calls prog 231 #[.agg x.cells] W (aN (.bool (qQ x)) W):=by
 unfold cG.cells qQ;go_in;repeat' (first|go_values|go_skip|go_guarded|refine wg ?_|go_step|go_upon|go_quiet (fail))
 all_goals
  go_ret;exact cE (by first|rfl|grind) bel
theorem qSi:Enters prog 231:=enters_of func231 (by kernel_rfl) rfl
def Made (l:List cG) (w:World) (e:Ending) (w':World):Prop:=
 ∃ v,Below w.heap.size w w'∧((uM l=none∧SlPp w' v l∧e=.returned (.tuple #[v,.int .i64 0,.int .i64 5]))∨∃ k n,uM l=some (k,n)∧SlPp w' v k∧e=.returned (.tuple #[v,.int .i64 (n:Int),.int .i64 0]))
theorem qIk {l:List cG} {k:Nat} (h:idx l qQ=(k:Int)):uM l=some (l.set k ⟨ByteArray.empty,1,1⟩,k + 1):=by
 unfold uM;unfold idx at h;cases hf:l.findIdx? qQ with
 |none=> rw [hf] at h;simp at h
 |some k'=>
  rw [hf] at h;have h:(k':Int)=(k:Int):=h;rw [show k'=k by omega]
theorem qIj {l:List cG} (h:idx l qQ= -1):uM l=if 4≤l.length then none else some (l ++ [⟨ByteArray.empty,1,1⟩],l.length + 1):=by
 unfold uM;unfold idx at h;cases hf:l.findIdx? qQ with
 |none=> rfl
 |some k'=> rw [hf] at h;simp at h
theorem qHv {α:Type} (l:List α) (pr:α→Bool):(∃ k:Nat,idx l pr=(k:Int)∧k<l.length)∨idx l pr= -1:=by
 unfold idx;cases hf:l.findIdx? pr with
 |none=> exact .inr rfl
 |some k=>
  rw [List.findIdx?_eq_some_iff_getElem] at hf;exact .inl ⟨k,rfl,hf.1⟩
theorem qYq (v:Value) (l:List cG) (w:World) (h:SlPp w v l) (hn:l.length≤34359738368):
 Calls prog 213 #[v] w (Made l w):=by
 have HS:=hU h;have HI:=hU (qSo v l qQ 231 w h qSi (fun x W hb=> qZu x W));have HCL:=hU (fun W (hb:Below w.heap.size w W)=> sD v l W (h.below hb) (by omega));obtain ⟨a,c,rfl,hnc,hcm⟩:=h.shape;clear h;go_in;refine sg ?_;intros;refine HI.out.mono ?_;rintro e w1 ⟨rfl,hb1⟩;have HB1:=hU hb1;clear hb1 HI;rcases qHv l qQ with ⟨k,hi,hk⟩|hi
 · have HE:=hU (qIk hi);rw [hi];clear hi;dsimp only;have hkn:¬ (k:Int)<0:=by omega
   have hkl:((k:Int)==(l.length:Int))=false:=by simp;omega
   have hki:(k:Int)<(l.length:Int):=by omega
   have hw:IntKind.i64.wrap ((k:Int) + 1)=(k:Int) + 1:=by rw [IntKind.wrap_i64];omega
   refine sg ?_;intros;refine (HCL.out w1 HB1.out).mono ?_;rintro e w2 ⟨v2,rfl,hown,hb2⟩;have HB2:=hU (Below.to HB1.out hb2);obtain ⟨g,cp,cur,rfl,hBg,hrow⟩:=hown.row (by intro e;subst e;simp at hk);have hz1:=HB1.out.size
   have hfit:k * 3 + 3≤cur.size:=by
    rw [hrow.2.2.2.1]
    have:(k + 1) * 3≤cp * 3:=Nat.mul_le_mul_right _ (by have:=hrow.2.1;omega)
    omega
   have HROW:=hU hrow;have HSET:=hU (fun (W':World) (hp:Put g (aQ cur (k * 3) (cG.cells ⟨ByteArray.empty,1,1⟩)) 191 w2 W')=> (Row.set fB HROW.out (i:=k) (x:=⟨ByteArray.empty,1,1⟩) hk rfl hp).own fB (B:=w1.heap.size) hBg);clear hown hb2 HCL hrow;dsimp only
   repeat' (first
    |(refine aK (v:=.agg (cG.cells ⟨ByteArray.empty,1,1⟩)) (off:=k * 3) rfl rfl rfl rfl iD.size HROW.out.1 rfl hfit (uJ _) rfl ?_;intro W3 hp3;(have HO3:=hU (HSET.out W3 hp3));(have HB3:=hU (Below.put HB2.out hp3 (by omega)));clear hp3)
    |go_values|go_skip|go_guarded|refine wg ?_|go_step|go_upon)
   go_ret3
   have ho:=HO3.out;rw [List.length_set] at ho;exact ⟨_,HB3.out,.inr ⟨_,_,HE.out,ho.sl fB,by rw [Int.natCast_add];rfl⟩⟩
 · have HE:=hU (qIj hi);rw [hi];clear hi;dsimp only;by_cases h4:4≤l.length
   · rw [if_pos h4] at HE;have h4I:(4:Int)≤(l.length:Int):=by omega
     refine sg ?_;intros;go_ret3
     exact ⟨_,HB1.out,.inl ⟨HE.out,HS.out.below HB1.out,rfl⟩⟩
   · rw [if_neg h4] at HE;have h4I:¬ (4:Int)≤(l.length:Int):=by omega
     have hw:IntKind.i64.wrap ((l.length:Int) + 1)=(l.length:Int) + 1:=by rw [IntKind.wrap_i64];omega
     refine sg ?_;intros;refine (HCL.out w1 HB1.out).mono ?_;rintro e w2 ⟨v2,rfl,hown,hb2⟩;have HB2:=hU (Below.to HB1.out hb2);have hz1:=HB1.out.size;have hz2:=hb2.size;obtain ⟨v3,w3,hrun,hown3,hb3⟩:=qSl v2 l ⟨ByteArray.empty,0,0⟩ w1.heap.size w2.heap.size (w2.alloc (.cells (cG.cells ⟨ByteArray.empty,0,0⟩) 191)) (cY hown ((Below.refl w2.heap.size w2).alloc (Nat.le_refl _) _)) (by simp;omega) (fZ w2 _) hn;obtain ⟨a2,c2,rfl,_,_⟩:=(hown.sl fB).shape;obtain ⟨g,cp,cur,rfl,hBg,hrow⟩:=hown3.row (by simp);have hlen:(l ++ [(⟨ByteArray.empty,0,0⟩:cG)]).length=l.length + 1:=by simp
     rw [hlen] at hrun
     have hfit:l.length * 3 + 3≤cur.size:=by
      rw [hrow.2.2.2.1]
      have:(l.length + 1) * 3≤cp * 3:=Nat.mul_le_mul_right _ (by have:=hrow.2.1;rw [hlen] at this;omega)
      omega
     have HRUN:=hU hrun;have HROW:=hU hrow;have HB3:=hU ((HB2.out.alloc (by omega) (.cells (cG.cells ⟨ByteArray.empty,0,0⟩) 191)).trans (hb3.mono hz1));have HSET:=hU (fun (W':World) (hp:Put g (aQ cur (l.length * 3) (cG.cells ⟨ByteArray.empty,1,1⟩)) 191 w3 W')=> (Row.set fB HROW.out (i:=l.length) (x:=⟨ByteArray.empty,1,1⟩) (by rw [hlen];omega) rfl hp).own fB (B:=w1.heap.size) hBg);have hset:(l ++ [(⟨ByteArray.empty,0,0⟩:cG)]).set l.length ⟨ByteArray.empty,1,1⟩=l ++ [⟨ByteArray.empty,1,1⟩]:=by simp
     have HST:=hU hset;clear hown hb2 HCL hrow hrun hown3 hb3 hlen hset;dsimp only
     repeat' (first
      |(at_builtin;refine cV _ rfl _ _ _ _ rfl _ _ rfl rfl _ _ HRUN.out ?_)
      |(refine aK (v:=.agg (cG.cells ⟨ByteArray.empty,1,1⟩)) (off:=l.length * 3) rfl rfl rfl rfl iD.size HROW.out.1 rfl hfit (uJ _) rfl ?_;intro W4 hp4;(have HO4:=hU (HSET.out W4 hp4));(have HB4:=hU (Below.put HB3.out hp4 (by omega)));clear hp4)
      |go_values|go_skip|go_guarded|refine wg ?_|go_step|go_upon)
     go_ret3
     have ho:=HO4.out;rw [HST.out] at ho;rw [List.length_append] at ho;exact ⟨_,HB4.out,.inr ⟨_,_,HE.out,ho.sl fB,by rw [Int.natCast_add];rfl⟩⟩
def fV (d0:Int) (e0:Bool) (d1:Int) (e1:Bool) (d2:Int) (e2:Bool) (d3:Int) (e3:Bool):Array Value:=#[.int .i64 d0,.bool e0,.int .i64 d1,.bool e1,.int .i64 d2,.bool e2,.int .i64 d3,.bool e3]
def xW (d0:Int) (e0:Bool) (d1:Int) (e1:Bool) (d2:Int) (e2:Bool) (d3:Int) (e3:Bool) (d:Int) (e:Bool):Array Value × Int × Int:=
 if d0=0 then (fV d e d1 e1 d2 e2 d3 e3,0,0) else if d1=0 then (fV d0 e0 d e d2 e2 d3 e3,1,0) else if d2=0 then (fV d0 e0 d1 e1 d e d3 e3,2,0) else if d3=0 then (fV d0 e0 d1 e1 d2 e2 d e,3,0) else (fV d0 e0 d1 e1 d2 e2 d3 e3,0,5)
theorem PSet (d0:Int) (e0:Bool) (d1:Int) (e1:Bool) (d2:Int) (e2:Bool) (d3:Int) (e3:Bool) (d:Int) (e:Bool) (w:World):
 Calls prog 214 #[.agg (fV d0 e0 d1 e1 d2 e2 d3 e3),.agg #[.int .i64 d,.bool e]] w (aN (.tuple #[.agg (xW d0 e0 d1 e1 d2 e2 d3 e3 d e).1,.int .i64 (xW d0 e0 d1 e1 d2 e2 d3 e3 d e).2.1,.int .i64 (xW d0 e0 d1 e1 d2 e2 d3 e3 d e).2.2]) w):=by
 unfold xW;by_cases h0:d0=0
 · rw [if_pos h0];subst h0;unfold fV;go_in;refine sg ?_;intros;refine wp_loop_rounds 5 ?_;rw [rounds_succ];refine sg ?_;intros;(apply bodyPost_ret;(simp only [results,results214];go_simp;exact rfl);rfl)
   exact ⟨rfl,bel⟩
 · have b0:(d0==0)=false:=by simp [h0]
   rw [if_neg h0];by_cases h1:d1=0
   · rw [if_pos h1];subst h1;unfold fV;go_in;refine sg ?_;intros;refine wp_loop_rounds 5 ?_;rw [rounds_succ];refine sg ?_;intros;rw [rounds_succ];refine sg ?_;intros;(apply bodyPost_ret;(simp only [results,results214];go_simp;exact rfl);rfl)
     exact ⟨rfl,bel⟩
   · have b1:(d1==0)=false:=by simp [h1]
     rw [if_neg h1];by_cases h2:d2=0
     · rw [if_pos h2];subst h2;unfold fV;go_in;refine sg ?_;intros;refine wp_loop_rounds 5 ?_;rw [rounds_succ];refine sg ?_;intros;rw [rounds_succ];refine sg ?_;intros;rw [rounds_succ];refine sg ?_;intros;(apply bodyPost_ret;(simp only [results,results214];go_simp;exact rfl);rfl)
       exact ⟨rfl,bel⟩
     · have b2:(d2==0)=false:=by simp [h2]
       rw [if_neg h2];by_cases h3:d3=0
       · rw [if_pos h3];subst h3;unfold fV;go_in;refine sg ?_;intros;refine wp_loop_rounds 5 ?_;rw [rounds_succ];refine sg ?_;intros;rw [rounds_succ];refine sg ?_;intros;rw [rounds_succ];refine sg ?_;intros;rw [rounds_succ];refine sg ?_;intros;(apply bodyPost_ret;(simp only [results,results214];go_simp;exact rfl);rfl)
         exact ⟨rfl,bel⟩
       · have b3:(d3==0)=false:=by simp [h3]
         rw [if_neg h3];unfold fV;go_in;refine sg ?_;intros;refine wp_loop_rounds 5 ?_;rw [rounds_succ];refine sg ?_;intros;rw [rounds_succ];refine sg ?_;intros;rw [rounds_succ];refine sg ?_;intros;rw [rounds_succ];refine sg ?_;intros;rw [rounds_succ];refine sg ?_;intros;(apply bodyPost_ret;(simp only [results,results214];go_simp;exact rfl);rfl)
         exact ⟨rfl,bel⟩
def pC (e v:Int):Int:=if e=0 then v else (-e) % 4294967296
def eX (r0 r1 r2 r3 r4 r5 r6 r7 pc:Int):Array Value:=#[.int .u32 r0,.int .u32 r1,.int .u32 r2,.int .u32 r3,.int .u32 r4,.int .u32 r5,.int .u32 r6,.int .u32 r7,.int .u32 pc]
theorem qNd (e v:Int) (w:World) (h0:0≤e) (h1:e<100):Calls prog 126 #[.int .i64 e,.int .u32 v] w (aN (.int .u32 (pC e v)) w):=by
 by_cases he:e=0
 · subst he;go_in;refine sg ?_;intros;go_ret;exact fA rfl (Below.refl _ _)
 · have heb:(e==0)=false:=by simp [he]
   have hc:pC e v=(-e) % 4294967296:=by rw [pC,if_neg he]
   go_in;refine sg ?_;intros;go_ret;rw [hc];exact fA (by first|(simp only [IntKind.wrap_u32];done)|(simp only [IntKind.wrap_u32];omega)) (Below.refl _ _)
theorem qYj (r0 r1 r2 r3 r4 r5 r6 r7 pc:Int) (w:World):Calls prog 87 #[.agg (eX r0 r1 r2 r3 r4 r5 r6 r7 pc)] w (aN (.agg #[.int .u32 r0,.int .u32 r1,.int .u32 r2,.int .u32 r3]) w):=by
 unfold eX;go_in;refine sg ?_;intros;(try simp only [Exit.inBlock,Exit.then]);refine bodyPost_ret (cJ (b:=w.heap.size + 1) (cs:=#[.int .u32 r0,.int .u32 r1,.int .u32 r2,.int .u32 r3]) results87 dD rfl (by have h:=fZ (w.alloc (.cells #[.int .u32 r0,.int .u32 r1,.int .u32 r2,.int .u32 r3,.int .u32 r4,.int .u32 r5,.int .u32 r6,.int .u32 r7,.int .u32 pc] 114)) (.cells #[.int .u32 r0,.int .u32 r1,.int .u32 r2,.int .u32 r3] 119);rwa [World.size_alloc] at h) rfl) rfl ?_
 exact ⟨rfl,bel⟩
theorem qYi (r0 r1 r2 r3 r4 r5 r6 r7 pc e v:Int) (w:World) (h0:0≤e) (h1:e<100):Calls prog 124 #[.agg (eX r0 r1 r2 r3 r4 r5 r6 r7 pc),.int .i64 e,.int .u32 v] w (aN (.agg (eX (pC e v) r1 r2 r3 r4 r5 r6 r7 pc)) w):=by
 have HV:=hU (fun W=> qNd e v W h0 h1);unfold eX;have q0:=fZ w (.cells #[.int .u32 r0,.int .u32 r1,.int .u32 r2,.int .u32 r3,.int .u32 r4,.int .u32 r5,.int .u32 r6,.int .u32 r7,.int .u32 pc] 114);have q1:=fZ (w.alloc (.cells #[.int .u32 r0,.int .u32 r1,.int .u32 r2,.int .u32 r3,.int .u32 r4,.int .u32 r5,.int .u32 r6,.int .u32 r7,.int .u32 pc] 114)) (.cells #[.int .u32 0,.int .u32 0,.int .u32 0,.int .u32 0,.int .u32 0,.int .u32 0,.int .u32 0,.int .u32 0,.int .u32 0] 114);rw [World.size_alloc] at q1;have Q0:=hU (hold (o:=.cells #[.int .u32 0,.int .u32 0,.int .u32 0,.int .u32 0,.int .u32 0,.int .u32 0,.int .u32 0,.int .u32 0,.int .u32 0] 114) q0);have Q1:=hU q1;clear q0 q1;go_in;refine sg ?_;intros;refine (HV.out _).mono ?_;rintro ev w1 ⟨rfl,hb1⟩;have hz1:=hb1.size;simp at hz1;have HT:=hU ((hb1.block w.heap.size (by simp;omega)).trans Q0.out);have HR:=hU ((hb1.block (w.heap.size + 1) (by simp)).trans Q1.out);have HB1:Hid (Below w.heap.size w w1):=hU bel;clear hb1;dsimp only
 repeat' (first
  |(refine aK (v:=.int .u32 (pC e v)) (off:=0) (new:=#[.int .u32 (pC e v),.int .u32 r1,.int .u32 r2,.int .u32 r3,.int .u32 r4,.int .u32 r5,.int .u32 r6,.int .u32 r7,.int .u32 pc]) rfl rfl rfl rfl qPq.size HT.out rfl (by simp) (by intro u hu;simp [Value.cells] at hu;subst hu;rfl) rfl ?_;intro W2 hp2;(have HT2:=hU hp2.at_);(have HR2:=hU ((hp2.oth (w.heap.size + 1) (by omega)).trans HR.out));(have HB2:=hU (Below.put HB1.out hp2 (Nat.le_refl _)));clear hp2)
  |(refine aE rfl rfl rfl (aD gT HT2.out rfl) ?_)
  |(refine aK (v:=.agg #[.int .u32 (pC e v),.int .u32 r1,.int .u32 r2,.int .u32 r3,.int .u32 r4,.int .u32 r5,.int .u32 r6,.int .u32 r7,.int .u32 pc]) (off:=0) (new:=#[.int .u32 (pC e v),.int .u32 r1,.int .u32 r2,.int .u32 r3,.int .u32 r4,.int .u32 r5,.int .u32 r6,.int .u32 r7,.int .u32 pc]) rfl rfl rfl rfl gT.size HR2.out rfl (by simp) (by intro u hu;simp [Value.cells] at hu;rcases hu with rfl|rfl|rfl|rfl|rfl|rfl|rfl|rfl|rfl <;> rfl) rfl ?_;intro W4 hp4;(have HR4:=hU hp4.at_);(have HB4:=hU (Below.put HB2.out hp4 (by omega)));clear hp4)
  |go_values|go_skip|go_guarded|refine wg ?_|go_step|go_upon)
 (try simp only [Exit.inBlock,Exit.then]);refine bodyPost_ret (cJ results124 gT rfl HR4.out rfl) rfl ?_
 exact ⟨rfl,HB4.out⟩
structure Call where
 n:Int
 a:Int
 b:Int
 c:Int
def Call.cells (x:Call):Array Value:=#[.int .u32 x.n,.int .u32 x.a,.int .u32 x.b,.int .u32 x.c]
def Proc.want (p:Proc):Call:=⟨p.wn,p.wa,p.wb,p.wc⟩
def Proc.asks (p:Proc) (x:Call):Proc:={p with wn:=x.n,wa:=x.a,wb:=x.b,wc:=x.c}
def Proc.from_ (p:Proc):Call:=⟨p.r0,p.r1,p.r2,p.r3⟩
def eG (k:aI) (n:Int):ByteArray:=match k.images[n.toNat]? with|some s=> Sg.qCv 64 s|none=> ⟨#[]⟩
def dA (k:aI) (n:Int):Int:=match k.images[n.toNat]? with|some s=> Sg.uG 64 s|none=> 7
def eC (l:List cG) (p:Proc) (by_:Int):List cG:=aM (aM (aM (aM l p.d0 p.e0 by_) p.d1 p.e1 by_) p.d2 p.e2 by_) p.d3 p.e3 by_
def fO (size:Int) (l:List Span) (n who:Int):List Span × Int:=if n<1∨eO size l=false then (l,1) else match qJu size l n who with|some r=> (r,0)|none=> (l,5)
def born (p:Proc) (pid:Int):Proc:={p with pid:=pid,st:=1,wn:=0,wa:=0,wb:=0,wc:=0}
def lD (k:aI):Int:=if 6≤k.p.length then 0 else if (fO k.hs k.h 64 (next k.p)).2=0 then next k.p % 4294967296 else 0
def fN (k:aI):Int:=if 6≤k.p.length then 5 else (fO k.hs k.h 64 (next k.p)).2
def fresh (k:aI) (p:Proc):aI:=
 if 6≤k.p.length then k else
 if (fO k.hs k.h 64 (next k.p)).2=0 then {k with h:=(fO k.hs k.h 64 (next k.p)).1,aG:=eC k.aG p 1,p:=put k.p (born p (next k.p)),t:=iE k.t (next k.p)} else k
def back (p:Proc) (v e:Int):Proc:={p with r0:=pC e v,st:=1,wn:=0,wa:=0,wb:=0,wc:=0}
def answer (k:aI) (p:Proc) (x:Call) (v e:Int):aI:={k with p:=put k.p (back p v e),trace:=k.trace ++ [⟨p.pid,x.n,pC e v,k.now⟩]}
def over (p:Proc) (code:Int):Proc:={p with d0:=0,e0:=false,d1:=0,e1:=false,d2:=0,e2:=false,d3:=0,e3:=false,st:=4,code:=code}
def ends (k:aI) (pid code why:Int):aI:=
 if pid=1 then {k with p:=[],t:=⟨[],0⟩,s:=[],aG:=[],h:=[],gone:=1 + why} else
 let p:=(find k.p pid).getD Proc.zero
 let l:=dQ k.p pid 1
 let k1:={k with aG:=eC k.aG p (-1),h:=gX k.h pid,t:=eZ k.t pid,s:=lY k.s pid}
 if ((find l p.par).map (fun q=> q.st==4)).getD true=true then {k1 with p:=remove l pid} else {k1 with p:=put l (over p code)}
def jJ (k:aI) (p:Proc) (n:Int):Bool:= !(decide (4≤n)||decide ((gC p n.toNat).1<1)||decide ((k.aG.length:Int)<(gC p n.toNat).1))
structure iA where
 k:aI
 v:Int
 e:Int
def wait (k:aI) (p:Proc):iA:=
 match dead k.p p.pid with
 |some q=> ⟨{k with p:=remove k.p q.pid},(256 * q.pid + ((find k.p q.pid).getD Proc.zero).code) % 4294967296,0⟩
 |none=> if children k.p p.pid=[] then ⟨k,0,12⟩ else ⟨k,0,6⟩
def aG (k:aI) (p:Proc):iA:=
 match uM k.aG with
 |none=> ⟨k,0,5⟩
 |some (l,n)=> match oF p with
  |none=> ⟨k,0,5⟩
  |some a=> match oF (dH p a n false) with
   |none=> ⟨k,0,5⟩
   |some b=> ⟨{k with aG:=l,p:=put k.p (dH (dH p a n false) b n true)},((a:Int) + 256 * b) % 4294967296,0⟩
def eT (k:aI) (p:Proc) (n:Int):cG:=(k.aG[((gC p n.toNat).1 - 1).toNat]?).getD ⟨ByteArray.empty,0,0⟩
def writes (k:aI) (p:Proc) (x:Call):iA:=
 if jJ k p x.a=false∨(gC p x.a.toNat).2=false then ⟨k,0,1⟩ else
 if Sg.uL p.mem x.b x.c ≠ 0 then ⟨k,0,Sg.uL p.mem x.b x.c⟩ else
 let r:=pwrite (eT k p x.a) (Sg.sY p.mem x.b x.c)
 if r.2.2 ≠ 0 then ⟨k,0,r.2.2⟩ else ⟨{k with aG:=k.aG.set ((gC p x.a.toNat).1 - 1).toNat r.1},r.2.1 % 4294967296,0⟩
def reads (k:aI) (p:Proc) (x:Call):iA:=
 if jJ k p x.a=false∨(gC p x.a.toNat).2=true then ⟨k,0,1⟩ else
 if Sg.uL p.mem x.b x.c ≠ 0 then ⟨k,0,Sg.uL p.mem x.b x.c⟩ else
 let r:=pread (eT k p x.a) x.c
 if r.2.2 ≠ 0 then ⟨k,0,r.2.2⟩ else
 ⟨{k with aG:=k.aG.set ((gC p x.a.toNat).1 - 1).toNat r.1,p:=put k.p {p with mem:=Sg.inM p.mem x.b r.2.1}},(r.2.1.size:Int) % 4294967296,0⟩
def gM (k:aI) (p:Proc) (x:Call):iA:=
 if jJ k p x.a=false then ⟨k,0,1⟩ else
 ⟨{k with aG:=aM k.aG (gC p x.a.toNat).1 (gC p x.a.toNat).2 (-1),p:=put k.p (dH p x.a.toNat 0 false)},0,0⟩
def gZ (k:aI) (p:Proc) (x:Call):iA:=
 match k.outs[x.a.toNat]? with
 |none=> ⟨k,0,7⟩
 |some c=> if Sg.uL p.mem x.b x.c ≠ 0 then ⟨k,0,Sg.uL p.mem x.b x.c⟩ else
  if c.size<(Sg.sY p.mem x.b x.c).size then ⟨k,0,4⟩ else ⟨{k with sent:=k.sent ++ [⟨x.a,Sg.sY p.mem x.b x.c⟩]},0,0⟩
def mH (k:aI) (p:Proc) (x:Call):iA:=
 match k.ins_[x.a.toNat]?,k.box[x.a.toNat]? with
 |some c,some b=> match b.l with
  |[]=> ⟨k,0,6⟩
  |m::_=> if x.c<m.body.size then ⟨k,0,4⟩ else
   if Sg.inE p.mem x.b m.body ≠ 0 then ⟨k,0,Sg.inE p.mem x.b m.body⟩ else
   ⟨{k with box:=k.box.set x.a.toNat (qE c b),p:=put k.p {p with mem:=Sg.inM p.mem x.b m.body}},(m.body.size:Int) % 4294967296,0⟩
 |_,_=> ⟨k,0,7⟩
def lQ (a:Int):ByteArray:=⟨#[UInt8.ofNat (a % 256).toNat]⟩
def aW (k:aI) (p:Proc) (x:Call):iA:=
 if x.n=4 then wait k p
 else if x.n=6 then ⟨k,p.pid % 4294967296,0⟩
 else if x.n=9 then ⟨k,k.now % 4294967296,0⟩
 else if x.n=10 then ⟨{k with cons:=k.cons ++ lQ x.a},0,0⟩
 else if x.n=11 then aG k p
 else if x.n=12 then writes k p x
 else if x.n=13 then reads k p x
 else if x.n=14 then gM k p x
 else if x.n=15 then gZ k p x
 else if x.n=16 then mH k p x
 else ⟨k,0,1⟩
def eM (k:aI) (pid:Int) (x:Call):Bool:= !((aW k ((find k.p pid).getD Proc.zero) x).e==6 && !(x.n==16))
def tries (k:aI) (pid:Int) (x:Call):aI:=
 let r:=aW k ((find k.p pid).getD Proc.zero) x
 if eM k pid x=true then answer r.k ((find r.k.p pid).getD Proc.zero) x r.v r.e else r.k
def stops (k:aI) (p:Proc) (st:Int) (x:Call):aI:={k with p:=put k.p {p with st:=st,wn:=x.n,wa:=x.a,wb:=x.b,wc:=x.c},t:=eZ k.t p.pid}
def pU (k:aI) (x:Call):Bool:=((find k.p x.a).map (fun q=> !(q.st==4))).getD false
def jR (k:aI) (p:Proc) (x:Call):aI:=
 if x.a=1 then answer k p x 0 13 else if pU k x=false then answer k p x 0 7 else
 let k1:=ends k x.a 137 0
 if x.a=p.pid then k1 else answer k1 ((find k1.p p.pid).getD Proc.zero) x 0 0
def lL (k:aI) (p:Proc) (x:Call):Bool:=decide (x.a=1)|| !pU k x|| !decide (x.a=p.pid)
def lK (p:Proc):Proc:={p with par:=p.pid,r0:=0}
def lE (p:Proc) (m:ByteArray):Proc:={Proc.zero with par:=p.pid,mem:=m}
def qAo (p:Proc) (m:ByteArray):Proc:={p with mem:=m,r0:=0,r1:=0,r2:=0,r3:=0,r4:=0,r5:=0,r6:=0,r7:=0,pc:=0}
def asks (k:aI) (p:Proc) (x:Call):aI:=
 if x.n=1 then ends k p.pid (x.a % 256) 0
 else if x.n=7 then {answer k p x 0 0 with t:=jE k.t}
 else if x.n=8 then (if 0<x.a then {stops k p 3 x with s:=pM k.s ⟨til k.now x.a,p.pid⟩} else answer k p x 0 0)
 else if x.n=20 then (if 3≤x.a then answer k p x 0 1 else answer {k with want:=3 + x.a} p x 0 0)
 else if x.n=19 then answer {k with want:=k.want + 1 + 1} p x 0 0
 else if x.n=18 then answer {k with want:=k.want + 1} p x 0 0
 else if x.n=5 then jR k p x
 else if x.n=3 then answer (fresh k (lK p)) p x (lD k) (fN k)
 else if x.n=2 then (if dA k x.a=0 then answer (fresh k (lE p (eG k x.a))) p x (lD k) (fN k) else answer k p x 0 (dA k x.a))
 else if x.n=17 then answer k (if dA k x.a=0 then qAo p (eG k x.a) else p) x 0 (dA k x.a)
 else if eM k p.pid x=true then tries k p.pid x else stops (tries k p.pid x) p 2 x
def dF (k:aI) (p:Proc) (x:Call):Bool:=
 if x.n=1 then false else if x.n=7 then false else if x.n=8 then !decide (0<x.a)
 else if x.n=20 then true else if x.n=19 then true else if x.n=18 then true else if x.n=5 then lL k p x
 else if x.n=3 then true else if x.n=2 then true else if x.n=17 then true else eM k p.pid x
def iY (k:aI) (pid:Int):aI:=
 match find k.p pid with
 |some p=> if p.st=3 then {answer k p p.want 0 0 with t:=iE k.t pid} else k
 |none=> k
def iZ (k:aI) (p:Proc):aI:=
 if p.st=2 then (if eM k p.pid p.want=true then {tries k p.pid p.want with t:=iE (tries k p.pid p.want).t p.pid} else tries k p.pid p.want) else k
def cU (k:aI):aI:=(due k.s k.now).foldl iY {k with s:=rest k.s k.now}
def jA (k:aI):aI:=(cU k).p.foldl iZ (cU k)
def aO (p:Proc):Cp.St:=Cp.step [p.r0,p.r1,p.r2,p.r3,p.r4,p.r5,p.r6,p.r7] p.pc p.mem
def Proc.aU (p:Proc) (s:Cp.St):Proc:={p with r0:=s.rs.getD 0 0,r1:=s.rs.getD 1 0,r2:=s.rs.getD 2 0,r3:=s.rs.getD 3 0,r4:=s.rs.getD 4 0,r5:=s.rs.getD 5 0,r6:=s.rs.getD 6 0,r7:=s.rs.getD 7 0,pc:=s.pc,mem:=s.m}
def goes (k:aI):aI:=
 match k.t.l with
 |[]=> k
 |pid::_=>
  let p:=(find k.p pid).getD Proc.zero
  let s:=aO p
  let q:=p.aU s
  let k1:={k with p:=put k.p q}
  if s.t=0 then {k1 with t:=gO k1.t}
  else if s.t=3 then (if dF k1 q q.from_=true then {asks k1 q q.from_ with t:=gO (asks k1 q q.from_).t} else asks k1 q q.from_)
  else ends k pid (128 + s.t) s.t
def step (k:aI):aI:=
 let k1:={k with sent:=[],want:=0}
 let k2:=if k.gone=0 then goes (jA k1) else k1
 {k2 with now:=til k2.now 1}
def run:Nat→aI→aI
 |0,k=> k
 |n + 1,k=> run n (step k)
def dI (k:aI) (n:Int) (body:ByteArray) (at_:Int):aI:=
 if n<0∨(k.ins_.length:Int)≤n∨(k.box.length:Int)≤n then k else
 match k.ins_[n.toNat]?,k.box[n.toNat]? with
 |some c,some b=> {k with box:=k.box.set n.toNat (tU c b at_ body)}
 |_,_=> k
def eK (mem:Int) (images:List ByteArray) (outs ins:List cS) (now:Int):aI:=
 let k0:aI:={p:=[],t:=⟨[],0⟩,s:=[],aG:=[],hs:=if mem<0 then 0 else mem,h:=[],now:=now,images:=images,outs:=outs,ins_:=ins,box:=List.replicate ins.length ⟨[],0⟩,cons:=⟨#[]⟩,trace:=[],sent:=[],want:=0,gone:=0}
 let k1:=if dA k0 0=0 then fresh k0 {Proc.zero with mem:=eG k0 0} else k0
 if (if dA k0 0=0 then fN k0 else dA k0 0)=0 then k1 else {k1 with gone:=1}
