/- pipe.Read. Condition: the number is an integer. Conditions: as told. -/
import Derived.Test.YtbeakngieodlhaaGreatDoorGTurn
set_option linter.unusedVariables false
set_option maxRecDepth 100000
set_option maxHeartbeats 8000000
set_option linter.unusedSimpArgs false
namespace Go.Proofs.YtbeakngieodlhaaGreatDoor
open Tryz
open Go.RowKit KR
namespace Kn
theorem ba_empty {s:ByteArray} (h:s.size=0):s=ByteArray.empty:=by
 cases s with
 |mk d=>
  have:d=#[]:=Array.eq_empty_of_size_eq_zero h
  rw [this]
  rfl
theorem ba_ne {s:ByteArray} (h:¬ s.size=0):(s.toList==([]:List UInt8))=false:=by
 cases hb:(s.toList==([]:List UInt8))
 · rfl
 · exfalso
   apply h
   rw [ByteArray.toList_eq] at hb
   have h2:s.data.toList=[]:=by simpa using hb
   have:s.data=#[]:=by simpa using h2
   show s.data.size=0
   rw [this]
   rfl
def ReadOf (p:Pipe) (n:Int):Value:=.tuple #[.agg (pread p n).1.cells,.string (pread p n).2.1,.int .i64 (pread p n).2.2]
theorem PRead (p:Pipe) (n:Int) (w:World) (hd:p.data.size≤140737488355328):Calls prog 221 #[.agg p.cells,.int .i64 n] w (Gives (ReadOf p n) w):=by
 obtain ⟨data,rd,wr⟩:=p
 unfold ReadOf
 dsimp only at hd
 by_cases hn:n<0
 · have h1:pread ⟨data,rd,wr⟩ n=(⟨data,rd,wr⟩,ByteArray.empty,1):=by unfold pread;rw [if_pos hn]
   rw [h1]
   unfold Pipe.cells
   go_in
   refine sg ?_;intros
   (apply bodyPost_ret;(simp only [results,results221];go_simp;exact rfl);rfl)
   exact ⟨rfl,bel⟩
 · by_cases he:data.size=0
   · obtain rfl:=ba_empty he
     by_cases hw:0<n∧0<wr
     · have h1:pread ⟨ByteArray.empty,rd,wr⟩ n=(⟨ByteArray.empty,rd,wr⟩,ByteArray.empty,6):=by unfold pread;rw [if_neg hn,if_pos ⟨hw.1,he,hw.2⟩]
       rw [h1]
       obtain ⟨hw1,hw2⟩:=hw
       unfold Pipe.cells
       go_in
       refine sg ?_;intros
       all_goals
        (apply bodyPost_ret;(simp only [results,results221];go_simp;exact rfl);rfl)
        exact ⟨rfl,bel⟩
     · have h1:pread ⟨ByteArray.empty,rd,wr⟩ n=(⟨ByteArray.empty,rd,wr⟩,ByteArray.empty,0):=by unfold pread;rw [if_neg hn,if_neg (fun h=> hw ⟨h.1,h.2.2⟩),if_pos (.inr he)]
       rw [h1]
       unfold Pipe.cells
       go_in
       repeat' (first|go_values|go_skip|go_guarded|refine wg ?_|go_step|go_upon)
       all_goals
        (apply bodyPost_ret;(simp only [results,results221];go_simp;exact rfl);rfl)
        exact ⟨rfl,bel⟩
   · have hne:=ba_ne he
     by_cases hz:n=0
     · subst hz
       have h1:pread ⟨data,rd,wr⟩ 0=(⟨data,rd,wr⟩,ByteArray.empty,0):=by unfold pread;rw [if_neg hn,if_neg (fun h=> he h.2.1),if_pos (.inl rfl)]
       rw [h1]
       unfold Pipe.cells
       go_in
       refine sg ?_;intros
       all_goals
        (apply bodyPost_ret;(simp only [results,results221];go_simp;exact rfl);rfl)
        exact ⟨rfl,bel⟩
     · obtain ⟨N,rfl⟩:=Int.eq_ofNat_of_zero_le (show 0≤n by omega)
       have hpos:(0:Int)<(N:Int):=by omega
       have hnz:((N:Int)==0)=false:=by simp;omega
       by_cases hle:N≤data.size
       · have h1:pread ⟨data,rd,wr⟩ N=(⟨data.extract N data.size,rd,wr⟩,data.extract 0 N,0):=by
          unfold pread
          rw [if_neg hn,if_neg (fun h=> he h.2.1),if_neg (fun h=> h.elim hz he),Int.toNat_natCast,Nat.min_eq_left hle]
         rw [h1]
         have hlt:¬ (data.size:Int)<(N:Int):=by omega
         have hle':(N:Int)≤(data.size:Int):=by omega
         unfold Pipe.cells
         go_in
         refine sg ?_;intros
         all_goals
          (apply bodyPost_ret;(simp only [results,results221];go_simp;exact rfl);rfl)
          exact ⟨rfl,bel⟩
       · have h1:pread ⟨data,rd,wr⟩ N=(⟨ByteArray.empty,rd,wr⟩,data,0):=by
          unfold pread
          rw [if_neg hn,if_neg (fun h=> he h.2.1),if_neg (fun h=> h.elim hz he),Int.toNat_natCast,Nat.min_eq_right (show data.size≤N by omega)]
          simp
         rw [h1]
         have hlt:(data.size:Int)<(N:Int):=by omega
         unfold Pipe.cells
         go_in
         refine sg ?_;intros
         all_goals
          (apply bodyPost_ret;(simp only [results,results221];go_simp;exact rfl);rfl)
          exact ⟨rfl,bel⟩
def WriteOf (p:Pipe) (s:ByteArray):Value:=.tuple #[.agg (pwrite p s).1.cells,.int .i64 (pwrite p s).2.1,.int .i64 (pwrite p s).2.2]
theorem PWrite (p:Pipe) (s:ByteArray) (w:World) (hd:p.data.size≤1000000) (hs:s.size≤140737488355328):Calls prog 220 #[.agg p.cells,.string s] w (Gives (WriteOf p s) w):=by
 obtain ⟨data,rd,wr⟩:=p
 unfold WriteOf
 dsimp only at hd
 have hw8:IntKind.i64.wrap (8 - (data.size:Int))=8 - (data.size:Int):=by rw [IntKind.wrap_i64];omega
 by_cases he:s.size=0
 · obtain rfl:=ba_empty he
   have h1:pwrite ⟨data,rd,wr⟩ ByteArray.empty=(⟨data,rd,wr⟩,0,0):=by unfold pwrite;rw [if_pos he]
   rw [h1]
   unfold Pipe.cells
   go_in
   refine sg ?_;intros
   all_goals
    (apply bodyPost_ret;(simp only [results,results220];go_simp;exact rfl);rfl)
    exact ⟨rfl,bel⟩
 · have hne:=ba_ne he
   by_cases hr:rd≤0
   · have h1:pwrite ⟨data,rd,wr⟩ s=(⟨data,rd,wr⟩,0,14):=by unfold pwrite;rw [if_neg he,if_pos hr]
     rw [h1]
     unfold Pipe.cells
     go_in
     refine sg ?_;intros
     all_goals
      (apply bodyPost_ret;(simp only [results,results220];go_simp;exact rfl);rfl)
      exact ⟨rfl,bel⟩
   · by_cases h8:8≤data.size
     · have h1:pwrite ⟨data,rd,wr⟩ s=(⟨data,rd,wr⟩,0,6):=by unfold pwrite;rw [if_neg he,if_neg hr,if_pos h8]
       have h8I:(8:Int) - (data.size:Int)≤0:=by omega
       rw [h1]
       unfold Pipe.cells
       go_in
       refine sg ?_;intros
       all_goals
        (apply bodyPost_ret;(simp only [results,results220];go_simp;exact rfl);rfl)
        exact ⟨rfl,bel⟩
     · have h8I:¬ (8:Int) - (data.size:Int)≤0:=by omega
       obtain ⟨m,hm⟩:∃ m:Nat,m=min (8 - data.size) s.size:=⟨_,rfl⟩
       have h1:pwrite ⟨data,rd,wr⟩ s=(⟨data ++ s.extract 0 m,rd,wr⟩,(m:Int),0):=by unfold pwrite;rw [if_neg he,if_neg hr,if_neg h8,hm]
       rw [h1]
       have hms:m≤s.size:=by omega
       have hmI:(m:Int)≤(s.size:Int):=by omega
       have hmin:(if (s.size:Int)<8 - (data.size:Int) then (s.size:Int) else 8 - (data.size:Int))=(m:Int):=by split <;> omega
       clear hm
       obtain ⟨q0,q1⟩:=two_new w w.heap.size (.cells #[.string data,.int .i64 rd,.int .i64 wr] 191) (.cells #[.string ByteArray.empty,.int .i64 0,.int .i64 0] 191) rfl
       have HT:=hU q0
       have HR:=hU q1
       have HB1:Hid (Below w.heap.size w ((w.alloc (.cells #[.string data,.int .i64 rd,.int .i64 wr] 191)).alloc (.cells #[.string ByteArray.empty,.int .i64 0,.int .i64 0] 191))):=hU bel
       clear q0 q1
       have hext:(s.extract 0 m).size=m:=by rw [ByteArray.size_extract];omega
       have hjoin:¬ 9223372036854775807<data.size + m:=by omega
       unfold Pipe.cells
       go_in
       refine sg ?_;intros
       (try rw [hmin])
       refine wp_region_noPanic ?_
       refine RegTail.startL (st:=[7]) (S:=fun W=> W.cell? ⟨w.heap.size,0,none⟩=some (.string data)) (by kernel_rfl) ?_
       have hS:(fun W:World=> W.cell? ⟨w.heap.size,0,none⟩=some (.string data)) ((w.alloc (.cells #[.string data,.int .i64 rd,.int .i64 wr] 191)).alloc (.cells #[.string ByteArray.empty,.int .i64 0,.int .i64 0] 191)).drew:=hcell HT.out 0
       (refine RegTail.tl 0 ?_);(try simp only [RegT3.acts])
       (refine RegTail.tl 1 ?_);(try simp only [RegT3.acts])
       (refine RegTail.tl 2 ?_);(try simp only [RegT3.acts])
       (refine RegTail.tl 3 ?_);(try simp only [RegT3.acts])
       (refine RegTail.tl 4 ?_);(try simp only [RegT3.acts])
       (refine RegTail.tl 5 ?_);(try simp only [RegT3.acts])
       (refine RegTail.tl 6 ?_);(try simp only [RegT3.acts])
       (refine RegTail.ro 7 fun K hK=> ?_)
       refine RegTail.want rfl ?_
       refine wp_store (v:=.string (data ++ s.extract 0 m)) (off:=0) (new:=#[.string (data ++ s.extract 0 m),.int .i64 rd,.int .i64 wr]) rfl rfl rfl oneStr.size HT.out rfl (by simp) (onesStr _) rfl ?_
       intro W4 hp4
       have HT4:=hU hp4.at_
       have HR4:=hU ((hp4.oth (w.heap.size + 1) (by simp)).trans HR.out)
       have HB4:=hU (Below.put (Below.drew HB1.out) hp4 (Nat.le_refl _))
       clear hp4
       refine hK.out _ _ (fun h=> absurd h (by decide)) ?_
       clear hK K hS
       refine RegTail.doneL (by kernel_rfl) (NoPanic.normal ?_) _
       generalize hjj:data ++ s.extract 0 m=j at *
       repeat' (first
        |(refine wpList_load rfl rfl rfl (run_load_whole aggPipe HT4.out rfl) ?_)
        |(refine wpList_store (v:=.agg #[.string j,.int .i64 rd,.int .i64 wr]) (off:=0) (new:=#[.string j,.int .i64 rd,.int .i64 wr]) rfl rfl rfl rfl aggPipe.size HR4.out rfl (by simp) (onesPipe ⟨j,rd,wr⟩) rfl ?_;intro W5 hp5;(have HR5:=hU hp5.at_);(have HB5:=hU (Below.put HB4.out hp5 (by omega)));clear hp5)
        |go_values|go_skip|go_guarded|refine wg ?_|go_step|go_upon)
       (try simp only [Exit.inBlock,Exit.then]);refine bodyPost_ret (res_cell_tmp2 results220 aggPipe rfl HR5.out rfl) rfl ?_
       exact ⟨rfl,HB5.out⟩
abbrev SlPp (W:World) (v:Value) (l:List Pipe):Prop:=Sl 191 3 Pipe.cells W v l
def GivesPp (l:List Pipe) (w:World) (e:Ending) (w':World):Prop:=∃ v,e=.returned v∧SlPp w' v l∧Below w.heap.size w w'
theorem modify_set (l:List Pipe) (k:Nat) (f:Pipe→Pipe) (x:Pipe) (hx:l[k]? =some x):l.modify k f=l.set k (f x):=by
 apply List.ext_getElem?
 intro i
 rw [List.getElem?_modify,List.getElem?_set]
 by_cases h:k=i
 · subst h
   have:=(List.getElem?_eq_some_iff.1 hx).1
   rw [hx,if_pos rfl,if_pos this]
   simp
 · simp [h]
theorem PCount (v:Value) (l:List Pipe) (d:Int) (e:Bool) (by_:Int) (w:World) (h:SlPp w v l) (hn:l.length≤34359738368) (hby: -10≤by_∧by_≤10) (hb:∀ p ∈ l, -4611686018427387904≤p.rd∧p.rd≤4611686018427387904∧ -4611686018427387904≤p.wr∧p.wr≤4611686018427387904):
 Calls prog 80 #[v,.agg #[.int .i64 d,.bool e],.int .i64 by_] w (GivesPp (pcount l d e by_) w):=by
 have HS:=hU h
 have HCL:=hU (fun W (hb:Below w.heap.size w W)=> clonePipe v l W (h.below hb) (by omega))
 obtain ⟨a,c,rfl,hnc,hcm⟩:=h.shape
 clear h
 by_cases hd:d<1
 · have HE:Hid (pcount l d e by_=l):=hU (by rw [pcount,if_pos (.inl hd)])
   go_in
   refine sg ?_;intros
   go_ret
   rw [HE.out]
   exact ⟨_,rfl,HS.out.below bel,bel⟩
 · by_cases hdl:(l.length:Int)<d
   · have HE:Hid (pcount l d e by_=l):=hU (by rw [pcount,if_pos (.inr hdl)])
     go_in
     refine sg ?_;intros
     go_ret
     rw [HE.out]
     exact ⟨_,rfl,HS.out.below bel,bel⟩
   · obtain ⟨k,hk⟩:∃ k:Nat,d=(k:Int) + 1:=⟨(d - 1).toNat,by omega⟩
     subst hk
     have hkl:k<l.length:=by omega
     obtain ⟨x,hx⟩:∃ x,l[k]? =some x:=⟨_,List.getElem?_eq_getElem hkl⟩
     have hxb:=hb x (List.mem_of_getElem? hx)
     have HE:Hid (pcount l ((k:Int) + 1) e by_=l.set k (if e then {x with wr:=x.wr + by_} else {x with rd:=x.rd + by_})):=hU (by
      rw [pcount,if_neg (by omega),show ((k:Int) + 1 - 1).toNat=k by omega,modify_set l k _ x hx])
     have hw1:IntKind.i64.wrap (x.wr + by_)=x.wr + by_:=by rw [IntKind.wrap_i64];omega
     have hw2:IntKind.i64.wrap (x.rd + by_)=x.rd + by_:=by rw [IntKind.wrap_i64];omega
     have hki:(k:Int)<(l.length:Int):=by omega
     have hg1:¬ (l.length:Int)<(k:Int) + 1:=by omega
     have HX:=hU hx
     clear hx hb hxb
     go_in
     refine sg ?_;intros
     refine (HCL.out _ bel).mono ?_
     rintro ev w1 ⟨v1,rfl,hown,hb1⟩
     have hz1:=hb1.size
     simp at hz1
     have HB1:=hU (Below.to ((Below.refl w.heap.size w).alloc (Nat.le_refl _) _) hb1)
     have k0:w1.cell? ⟨w.heap.size,1,none⟩=some (.bool e):=(hb1.cell (p:=⟨w.heap.size,1,none⟩) (by simp)).trans (by go_simp)
     have k1:w1.cell? ⟨w.heap.size,0,none⟩=some (.int .i64 ((k:Int) + 1)):=(hb1.cell (p:=⟨w.heap.size,0,none⟩) (by simp)).trans (by go_simp)
     obtain ⟨g,cp,cur,rfl,hBg,hrow⟩:=hown.row (by intro e;subst e;simp at hkl)
     have hgl:=hlt hrow.1
     have hfit:k * 3 + 3≤cur.size:=by
      rw [hrow.2.2.2.1]
      have:(k + 1) * 3≤cp * 3:=Nat.mul_le_mul_right _ (by have:=hrow.2.1;omega)
      omega
     have c1:=hrow.get szPipe HX.out 1 (.int .i64 x.rd) rfl
     have c2:=hrow.get szPipe HX.out 2 (.int .i64 x.wr) rfl
     have HROW:=hU hrow
     simp at hBg
     have hw3:IntKind.i64.wrap ((k:Int) + 1 - 1)=(k:Int):=by rw [IntKind.wrap_i64];omega
     have hk3:(k:Int) + 1 - 1=(k:Int):=by omega
     have HSP2:Hid (splice cur (k * 3 + 2) #[.int .i64 (x.wr + by_)]=splice cur (k * 3) ({x with wr:=x.wr + by_}:Pipe).cells):=hU (splice_field (f:=Pipe.cells) (x:=x) (j:=2) (by rw [szPipe];exact hfit) (by rw [szPipe];decide) (hrow.get szPipe HX.out) hrow.1 rfl)
     have HSP1:Hid (splice cur (k * 3 + 1) #[.int .i64 (x.rd + by_)]=splice cur (k * 3) ({x with rd:=x.rd + by_}:Pipe).cells):=hU (splice_field (f:=Pipe.cells) (x:=x) (j:=1) (by rw [szPipe];exact hfit) (by rw [szPipe];decide) (hrow.get szPipe HX.out) hrow.1 rfl)
     have HSET:=hU (fun (y:Pipe) (W':World) (new:Array Value) (hn:splice cur (k * 3) y.cells=new) (hp:Put g new 191 w1 W')=> (Row.set szPipe HROW.out (i:=k) (x:=y) hkl hn hp).own szPipe (B:=w.heap.size + 1) hBg)
     clear hown hrow hb1 HCL
     dsimp only
     cases e
     all_goals
      repeat' (first
       |(refine wpList_store (v:=.int .i64 (x.wr + by_)) (off:=k * 3 + 2) rfl rfl rfl rfl oneInt.size HROW.out.1 rfl (by omega) (onesInt _) HSP2.out ?_;intro W2 hp2;(have HO2:=hU (HSET.out _ W2 _ rfl hp2));(have HB2:=hU (Below.put HB1.out hp2 (by omega)));clear hp2)
       |(refine wpList_store (v:=.int .i64 (x.rd + by_)) (off:=k * 3 + 1) rfl rfl rfl rfl oneInt.size HROW.out.1 rfl (by omega) (onesInt _) HSP1.out ?_;intro W2 hp2;(have HO2:=hU (HSET.out _ W2 _ rfl hp2));(have HB2:=hU (Below.put HB1.out hp2 (by omega)));clear hp2)
       |go_values|go_skip|go_guarded|refine wg ?_|go_step|go_upon)
      go_ret
      rw [HE.out]
      have ho:=HO2.out
      rw [List.length_set] at ho
      exact ⟨_,rfl,ho.sl szPipe,HB2.out⟩
theorem make1 (x:Pipe) (W:World):Calls prog 234 #[.agg x.cells] W (Gives (.bool (pfree x)) W):=by
 unfold Pipe.cells pfree
 go_in
 repeat' (first|go_values|go_skip|go_guarded|refine wg ?_|go_step|go_upon|go_quiet (fail))
 all_goals
  go_ret
  exact gives_bool (by first|rfl|grind) bel
theorem enMake1:Enters prog 234:=enters_of func234 (by kernel_rfl) rfl
def Made (l:List Pipe) (w:World) (e:Ending) (w':World):Prop:=
 ∃ v,Below w.heap.size w w'∧((pmake l=none∧SlPp w' v l∧e=.returned (.tuple #[v,.int .i64 0,.int .i64 5]))∨∃ k n,pmake l=some (k,n)∧SlPp w' v k∧e=.returned (.tuple #[v,.int .i64 (n:Int),.int .i64 0]))
theorem pmake_some {l:List Pipe} {k:Nat} (h:idx l pfree=(k:Int)):pmake l=some (l.set k ⟨ByteArray.empty,1,1⟩,k + 1):=by
 unfold pmake
 unfold idx at h
 cases hf:l.findIdx? pfree with
 |none=> rw [hf] at h;simp at h
 |some k'=>
  rw [hf] at h
  have h:(k':Int)=(k:Int):=h
  rw [show k'=k by omega]
theorem pmake_none {l:List Pipe} (h:idx l pfree= -1):pmake l=if 4≤l.length then none else some (l ++ [⟨ByteArray.empty,1,1⟩],l.length + 1):=by
 unfold pmake
 unfold idx at h
 cases hf:l.findIdx? pfree with
 |none=> rfl
 |some k'=> rw [hf] at h;simp at h
theorem idx_cases' {α:Type} (l:List α) (pr:α→Bool):(∃ k:Nat,idx l pr=(k:Int)∧k<l.length)∨idx l pr= -1:=by
 unfold idx
 cases hf:l.findIdx? pr with
 |none=> exact .inr rfl
 |some k=>
  rw [List.findIdx?_eq_some_iff_getElem] at hf
  exact .inl ⟨k,rfl,hf.1⟩
theorem PMake (v:Value) (l:List Pipe) (w:World) (h:SlPp w v l) (hn:l.length≤34359738368):
 Calls prog 216 #[v] w (Made l w):=by
 have HS:=hU h
 have HI:=hU (idxPipe v l pfree 234 w h enMake1 (fun x W hb=> make1 x W))
 have HCL:=hU (fun W (hb:Below w.heap.size w W)=> clonePipe v l W (h.below hb) (by omega))
 obtain ⟨a,c,rfl,hnc,hcm⟩:=h.shape
 clear h
 go_in
 refine sg ?_;intros
 refine HI.out.mono ?_
 rintro e w1 ⟨rfl,hb1⟩
 have HB1:=hU hb1
 clear hb1 HI
 rcases idx_cases' l pfree with ⟨k,hi,hk⟩|hi
 · have HE:=hU (pmake_some hi)
   rw [hi]
   clear hi
   dsimp only
   have hkn:¬ (k:Int)<0:=by omega
   have hkl:((k:Int)==(l.length:Int))=false:=by simp;omega
   have hki:(k:Int)<(l.length:Int):=by omega
   have hw:IntKind.i64.wrap ((k:Int) + 1)=(k:Int) + 1:=by rw [IntKind.wrap_i64];omega
   refine sg ?_;intros
   refine (HCL.out w1 HB1.out).mono ?_
   rintro e w2 ⟨v2,rfl,hown,hb2⟩
   have HB2:=hU (Below.to HB1.out hb2)
   obtain ⟨g,cp,cur,rfl,hBg,hrow⟩:=hown.row (by intro e;subst e;simp at hk)
   have hz1:=HB1.out.size
   have hfit:k * 3 + 3≤cur.size:=by
    rw [hrow.2.2.2.1]
    have:(k + 1) * 3≤cp * 3:=Nat.mul_le_mul_right _ (by have:=hrow.2.1;omega)
    omega
   have HROW:=hU hrow
   have HSET:=hU (fun (W':World) (hp:Put g (splice cur (k * 3) (Pipe.cells ⟨ByteArray.empty,1,1⟩)) 191 w2 W')=> (Row.set szPipe HROW.out (i:=k) (x:=⟨ByteArray.empty,1,1⟩) hk rfl hp).own szPipe (B:=w1.heap.size) hBg)
   clear hown hb2 HCL hrow
   dsimp only
   repeat' (first
    |(refine wpList_store (v:=.agg (Pipe.cells ⟨ByteArray.empty,1,1⟩)) (off:=k * 3) rfl rfl rfl rfl aggPipe.size HROW.out.1 rfl hfit (onesPipe _) rfl ?_;intro W3 hp3;(have HO3:=hU (HSET.out W3 hp3));(have HB3:=hU (Below.put HB2.out hp3 (by omega)));clear hp3)
    |go_values|go_skip|go_guarded|refine wg ?_|go_step|go_upon)
   go_ret3
   have ho:=HO3.out
   rw [List.length_set] at ho
   exact ⟨_,HB3.out,.inr ⟨_,_,HE.out,ho.sl szPipe,by rw [Int.natCast_add];rfl⟩⟩
 · have HE:=hU (pmake_none hi)
   rw [hi]
   clear hi
   dsimp only
   by_cases h4:4≤l.length
   · rw [if_pos h4] at HE
     have h4I:(4:Int)≤(l.length:Int):=by omega
     refine sg ?_;intros
     go_ret3
     exact ⟨_,HB1.out,.inl ⟨HE.out,HS.out.below HB1.out,rfl⟩⟩
   · rw [if_neg h4] at HE
     have h4I:¬ (4:Int)≤(l.length:Int):=by omega
     have hw:IntKind.i64.wrap ((l.length:Int) + 1)=(l.length:Int) + 1:=by rw [IntKind.wrap_i64];omega
     refine sg ?_;intros
     refine (HCL.out w1 HB1.out).mono ?_
     rintro e w2 ⟨v2,rfl,hown,hb2⟩
     have HB2:=hU (Below.to HB1.out hb2)
     have hz1:=HB1.out.size
     have hz2:=hb2.size
     obtain ⟨v3,w3,hrun,hown3,hb3⟩:=endPipe v2 l ⟨ByteArray.empty,0,0⟩ w1.heap.size w2.heap.size (w2.alloc (.cells (Pipe.cells ⟨ByteArray.empty,0,0⟩) 191)) (ownsRow_below hown ((Below.refl w2.heap.size w2).alloc (Nat.le_refl _) _)) (by simp;omega) (hnew w2 _) hn
     obtain ⟨a2,c2,rfl,_,_⟩:=(hown.sl szPipe).shape
     obtain ⟨g,cp,cur,rfl,hBg,hrow⟩:=hown3.row (by simp)
     have hlen:(l ++ [(⟨ByteArray.empty,0,0⟩:Pipe)]).length=l.length + 1:=by simp
     rw [hlen] at hrun
     have hfit:l.length * 3 + 3≤cur.size:=by
      rw [hrow.2.2.2.1]
      have:(l.length + 1) * 3≤cp * 3:=Nat.mul_le_mul_right _ (by have:=hrow.2.1;rw [hlen] at this;omega)
      omega
     have HRUN:=hU hrun
     have HROW:=hU hrow
     have HB3:=hU ((HB2.out.alloc (by omega) (.cells (Pipe.cells ⟨ByteArray.empty,0,0⟩) 191)).trans (hb3.mono hz1))
     have HSET:=hU (fun (W':World) (hp:Put g (splice cur (l.length * 3) (Pipe.cells ⟨ByteArray.empty,1,1⟩)) 191 w3 W')=> (Row.set szPipe HROW.out (i:=l.length) (x:=⟨ByteArray.empty,1,1⟩) (by rw [hlen];omega) rfl hp).own szPipe (B:=w1.heap.size) hBg)
     have hset:(l ++ [(⟨ByteArray.empty,0,0⟩:Pipe)]).set l.length ⟨ByteArray.empty,1,1⟩=l ++ [⟨ByteArray.empty,1,1⟩]:=by simp
     have HST:=hU hset
     clear hown hb2 HCL hrow hrun hown3 hb3 hlen hset
     dsimp only
     repeat' (first
      |(at_builtin;refine wpList_append_run _ rfl _ _ _ _ rfl _ _ rfl rfl _ _ HRUN.out ?_)
      |(refine wpList_store (v:=.agg (Pipe.cells ⟨ByteArray.empty,1,1⟩)) (off:=l.length * 3) rfl rfl rfl rfl aggPipe.size HROW.out.1 rfl hfit (onesPipe _) rfl ?_;intro W4 hp4;(have HO4:=hU (HSET.out W4 hp4));(have HB4:=hU (Below.put HB3.out hp4 (by omega)));clear hp4)
      |go_values|go_skip|go_guarded|refine wg ?_|go_step|go_upon)
     go_ret3
     have ho:=HO4.out
     rw [HST.out] at ho
     rw [List.length_append] at ho
     exact ⟨_,HB4.out,.inr ⟨_,_,HE.out,ho.sl szPipe,by rw [Int.natCast_add];rfl⟩⟩
def fdCells (d0:Int) (e0:Bool) (d1:Int) (e1:Bool) (d2:Int) (e2:Bool) (d3:Int) (e3:Bool):Array Value:=#[.int .i64 d0,.bool e0,.int .i64 d1,.bool e1,.int .i64 d2,.bool e2,.int .i64 d3,.bool e3]
def fdSet (d0:Int) (e0:Bool) (d1:Int) (e1:Bool) (d2:Int) (e2:Bool) (d3:Int) (e3:Bool) (d:Int) (e:Bool):Array Value × Int × Int:=
 if d0=0 then (fdCells d e d1 e1 d2 e2 d3 e3,0,0) else if d1=0 then (fdCells d0 e0 d e d2 e2 d3 e3,1,0) else if d2=0 then (fdCells d0 e0 d1 e1 d e d3 e3,2,0) else if d3=0 then (fdCells d0 e0 d1 e1 d2 e2 d e,3,0) else (fdCells d0 e0 d1 e1 d2 e2 d3 e3,0,5)
theorem PSet (d0:Int) (e0:Bool) (d1:Int) (e1:Bool) (d2:Int) (e2:Bool) (d3:Int) (e3:Bool) (d:Int) (e:Bool) (w:World):
 Calls prog 217 #[.agg (fdCells d0 e0 d1 e1 d2 e2 d3 e3),.agg #[.int .i64 d,.bool e]] w (Gives (.tuple #[.agg (fdSet d0 e0 d1 e1 d2 e2 d3 e3 d e).1,.int .i64 (fdSet d0 e0 d1 e1 d2 e2 d3 e3 d e).2.1,.int .i64 (fdSet d0 e0 d1 e1 d2 e2 d3 e3 d e).2.2]) w):=by
 unfold fdSet
 by_cases h0:d0=0
 · rw [if_pos h0]
   subst h0
   unfold fdCells
   go_in
   refine sg ?_;intros
   refine wp_loop_rounds 5 ?_
   rw [rounds_succ]
   refine sg ?_;intros
   (apply bodyPost_ret;(simp only [results,results217];go_simp;exact rfl);rfl)
   exact ⟨rfl,bel⟩
 · have b0:(d0==0)=false:=by simp [h0]
   rw [if_neg h0]
   by_cases h1:d1=0
   · rw [if_pos h1]
     subst h1
     unfold fdCells
     go_in
     refine sg ?_;intros
     refine wp_loop_rounds 5 ?_
     rw [rounds_succ]
     refine sg ?_;intros
     rw [rounds_succ]
     refine sg ?_;intros
     (apply bodyPost_ret;(simp only [results,results217];go_simp;exact rfl);rfl)
     exact ⟨rfl,bel⟩
   · have b1:(d1==0)=false:=by simp [h1]
     rw [if_neg h1]
     by_cases h2:d2=0
     · rw [if_pos h2]
       subst h2
       unfold fdCells
       go_in
       refine sg ?_;intros
       refine wp_loop_rounds 5 ?_
       rw [rounds_succ]
       refine sg ?_;intros
       rw [rounds_succ]
       refine sg ?_;intros
       rw [rounds_succ]
       refine sg ?_;intros
       (apply bodyPost_ret;(simp only [results,results217];go_simp;exact rfl);rfl)
       exact ⟨rfl,bel⟩
     · have b2:(d2==0)=false:=by simp [h2]
       rw [if_neg h2]
       by_cases h3:d3=0
       · rw [if_pos h3]
         subst h3
         unfold fdCells
         go_in
         refine sg ?_;intros
         refine wp_loop_rounds 5 ?_
         rw [rounds_succ]
         refine sg ?_;intros
         rw [rounds_succ]
         refine sg ?_;intros
         rw [rounds_succ]
         refine sg ?_;intros
         rw [rounds_succ]
         refine sg ?_;intros
         (apply bodyPost_ret;(simp only [results,results217];go_simp;exact rfl);rfl)
         exact ⟨rfl,bel⟩
       · have b3:(d3==0)=false:=by simp [h3]
         rw [if_neg h3]
         unfold fdCells
         go_in
         refine sg ?_;intros
         refine wp_loop_rounds 5 ?_
         rw [rounds_succ]
         refine sg ?_;intros
         rw [rounds_succ]
         refine sg ?_;intros
         rw [rounds_succ]
         refine sg ?_;intros
         rw [rounds_succ]
         refine sg ?_;intros
         rw [rounds_succ]
         refine sg ?_;intros
         (apply bodyPost_ret;(simp only [results,results217];go_simp;exact rfl);rfl)
         exact ⟨rfl,bel⟩
def cval (e v:Int):Int:=if e=0 then v else (-e) % 4294967296
def cpuCells (r0 r1 r2 r3 r4 r5 r6 r7 pc:Int):Array Value:=#[.int .u32 r0,.int .u32 r1,.int .u32 r2,.int .u32 r3,.int .u32 r4,.int .u32 r5,.int .u32 r6,.int .u32 r7,.int .u32 pc]
theorem CValue (e v:Int) (w:World) (h0:0≤e) (h1:e<100):Calls prog 129 #[.int .i64 e,.int .u32 v] w (Gives (.int .u32 (cval e v)) w):=by
 by_cases he:e=0
 · subst he
   go_in
   refine sg ?_;intros
   go_ret
   exact gives_int rfl (Below.refl _ _)
 · have heb:(e==0)=false:=by simp [he]
   have hc:cval e v=(-e) % 4294967296:=by rw [cval,if_neg he]
   go_in
   refine sg ?_;intros
   go_ret
   rw [hc]
   exact gives_int (by first|(simp only [IntKind.wrap_u32];done)|(simp only [IntKind.wrap_u32];omega)) (Below.refl _ _)
theorem CFrom (r0 r1 r2 r3 r4 r5 r6 r7 pc:Int) (w:World):Calls prog 90 #[.agg (cpuCells r0 r1 r2 r3 r4 r5 r6 r7 pc)] w (Gives (.agg #[.int .u32 r0,.int .u32 r1,.int .u32 r2,.int .u32 r3]) w):=by
 unfold cpuCells
 go_in
 refine sg ?_;intros
 (try simp only [Exit.inBlock,Exit.then]);refine bodyPost_ret (res_cell (b:=w.heap.size + 1) (cs:=#[.int .u32 r0,.int .u32 r1,.int .u32 r2,.int .u32 r3]) results90 aggCall rfl (by have h:=hnew (w.alloc (.cells #[.int .u32 r0,.int .u32 r1,.int .u32 r2,.int .u32 r3,.int .u32 r4,.int .u32 r5,.int .u32 r6,.int .u32 r7,.int .u32 pc] 116)) (.cells #[.int .u32 r0,.int .u32 r1,.int .u32 r2,.int .u32 r3] 121);rwa [World.size_alloc] at h) rfl) rfl ?_
 exact ⟨rfl,bel⟩
theorem CBack (r0 r1 r2 r3 r4 r5 r6 r7 pc e v:Int) (w:World) (h0:0≤e) (h1:e<100):Calls prog 127 #[.agg (cpuCells r0 r1 r2 r3 r4 r5 r6 r7 pc),.int .i64 e,.int .u32 v] w (Gives (.agg (cpuCells (cval e v) r1 r2 r3 r4 r5 r6 r7 pc)) w):=by
 have HV:=hU (fun W=> CValue e v W h0 h1)
 unfold cpuCells
 have q0:=hnew w (.cells #[.int .u32 r0,.int .u32 r1,.int .u32 r2,.int .u32 r3,.int .u32 r4,.int .u32 r5,.int .u32 r6,.int .u32 r7,.int .u32 pc] 116)
 have q1:=hnew (w.alloc (.cells #[.int .u32 r0,.int .u32 r1,.int .u32 r2,.int .u32 r3,.int .u32 r4,.int .u32 r5,.int .u32 r6,.int .u32 r7,.int .u32 pc] 116)) (.cells #[.int .u32 0,.int .u32 0,.int .u32 0,.int .u32 0,.int .u32 0,.int .u32 0,.int .u32 0,.int .u32 0,.int .u32 0] 116)
 rw [World.size_alloc] at q1
 have Q0:=hU (hold (o:=.cells #[.int .u32 0,.int .u32 0,.int .u32 0,.int .u32 0,.int .u32 0,.int .u32 0,.int .u32 0,.int .u32 0,.int .u32 0] 116) q0)
 have Q1:=hU q1
 clear q0 q1
 go_in
 refine sg ?_;intros
 refine (HV.out _).mono ?_
 rintro ev w1 ⟨rfl,hb1⟩
 have hz1:=hb1.size
 simp at hz1
 have HT:=hU ((hb1.block w.heap.size (by simp;omega)).trans Q0.out)
 have HR:=hU ((hb1.block (w.heap.size + 1) (by simp)).trans Q1.out)
 have HB1:Hid (Below w.heap.size w w1):=hU bel
 clear hb1
 dsimp only
 repeat' (first
  |(refine wpList_store (v:=.int .u32 (cval e v)) (off:=0) (new:=#[.int .u32 (cval e v),.int .u32 r1,.int .u32 r2,.int .u32 r3,.int .u32 r4,.int .u32 r5,.int .u32 r6,.int .u32 r7,.int .u32 pc]) rfl rfl rfl rfl oneU32.size HT.out rfl (by simp) (by intro u hu;simp [Value.cells] at hu;subst hu;rfl) rfl ?_;intro W2 hp2;(have HT2:=hU hp2.at_);(have HR2:=hU ((hp2.oth (w.heap.size + 1) (by omega)).trans HR.out));(have HB2:=hU (Below.put HB1.out hp2 (Nat.le_refl _)));clear hp2)
  |(refine wpList_load rfl rfl rfl (run_load_whole aggCpu HT2.out rfl) ?_)
  |(refine wpList_store (v:=.agg #[.int .u32 (cval e v),.int .u32 r1,.int .u32 r2,.int .u32 r3,.int .u32 r4,.int .u32 r5,.int .u32 r6,.int .u32 r7,.int .u32 pc]) (off:=0) (new:=#[.int .u32 (cval e v),.int .u32 r1,.int .u32 r2,.int .u32 r3,.int .u32 r4,.int .u32 r5,.int .u32 r6,.int .u32 r7,.int .u32 pc]) rfl rfl rfl rfl aggCpu.size HR2.out rfl (by simp) (by intro u hu;simp [Value.cells] at hu;rcases hu with rfl|rfl|rfl|rfl|rfl|rfl|rfl|rfl|rfl <;> rfl) rfl ?_;intro W4 hp4;(have HR4:=hU hp4.at_);(have HB4:=hU (Below.put HB2.out hp4 (by omega)));clear hp4)
  |go_values|go_skip|go_guarded|refine wg ?_|go_step|go_upon)
 (try simp only [Exit.inBlock,Exit.then]);refine bodyPost_ret (res_cell results127 aggCpu rfl HR4.out rfl) rfl ?_
 exact ⟨rfl,HB4.out⟩
structure Call where
 n:Int
 a:Int
 b:Int
 c:Int
def Call.cells (x:Call):Array Value:=#[.int .u32 x.n,.int .u32 x.a,.int .u32 x.b,.int .u32 x.c]
def Proc.want (p:Proc):Call:=⟨p.wn,p.wa,p.wb,p.wc⟩
def Proc.asks (p:Proc) (x:Call):Proc:={p with wn:=x.n,wa:=x.a,wb:=x.b,wc:=x.c}
def Proc.from_ (p:Proc):Call:=⟨p.r0,p.r1,p.r2,p.r3⟩
def imageM (k:Kern) (n:Int):ByteArray:=match k.images[n.toNat]? with|some s=> Sg.makeM 64 s|none=> ⟨#[]⟩
def imageE (k:Kern) (n:Int):Int:=match k.images[n.toNat]? with|some s=> Sg.makeE 64 s|none=> 7
def count4 (l:List Pipe) (p:Proc) (by_:Int):List Pipe:=pcount (pcount (pcount (pcount l p.d0 p.e0 by_) p.d1 p.e1 by_) p.d2 p.e2 by_) p.d3 p.e3 by_
def htakeE (size:Int) (l:List Span) (n who:Int):List Span × Int:=if n<1∨hright size l=false then (l,1) else match htake size l n who with|some r=> (r,0)|none=> (l,5)
def born (p:Proc) (pid:Int):Proc:={p with pid:=pid,st:=1,wn:=0,wa:=0,wb:=0,wc:=0}
def freshV (k:Kern):Int:=if 6≤k.p.length then 0 else if (htakeE k.hs k.h 64 (next k.p)).2=0 then next k.p % 4294967296 else 0
def freshE (k:Kern):Int:=if 6≤k.p.length then 5 else (htakeE k.hs k.h 64 (next k.p)).2
def fresh (k:Kern) (p:Proc):Kern:=
 if 6≤k.p.length then k else
 if (htakeE k.hs k.h 64 (next k.p)).2=0 then {k with h:=(htakeE k.hs k.h 64 (next k.p)).1,pipes:=count4 k.pipes p 1,p:=put k.p (born p (next k.p)),t:=tadd k.t (next k.p)} else k
def back (p:Proc) (v e:Int):Proc:={p with r0:=cval e v,st:=1,wn:=0,wa:=0,wb:=0,wc:=0}
def answer (k:Kern) (p:Proc) (x:Call) (v e:Int):Kern:={k with p:=put k.p (back p v e),trace:=k.trace ++ [⟨p.pid,x.n,cval e v,k.now⟩]}
def over (p:Proc) (code:Int):Proc:={p with d0:=0,e0:=false,d1:=0,e1:=false,d2:=0,e2:=false,d3:=0,e3:=false,st:=4,code:=code}
def ends (k:Kern) (pid code why:Int):Kern:=
 if pid=1 then {k with p:=[],t:=⟨[],0⟩,s:=[],pipes:=[],h:=[],gone:=1 + why} else
 let p:=(find k.p pid).getD Proc.zero
 let l:=adopt k.p pid 1
 let k1:={k with pipes:=count4 k.pipes p (-1),h:=hdrop k.h pid,t:=tdrop k.t pid,s:=sdrop k.s pid}
 if ((find l p.par).map (fun q=> q.st==4)).getD true=true then {k1 with p:=remove l pid} else {k1 with p:=put l (over p code)}
def isEnd (k:Kern) (p:Proc) (n:Int):Bool:= !(decide (4≤n)||decide ((getFd p n.toNat).1<1)||decide ((k.pipes.length:Int)<(getFd p n.toNat).1))
structure Tried where
 k:Kern
 v:Int
 e:Int
def wait (k:Kern) (p:Proc):Tried:=
 match dead k.p p.pid with
 |some q=> ⟨{k with p:=remove k.p q.pid},(256 * q.pid + ((find k.p q.pid).getD Proc.zero).code) % 4294967296,0⟩
 |none=> if children k.p p.pid=[] then ⟨k,0,12⟩ else ⟨k,0,6⟩
def pipes (k:Kern) (p:Proc):Tried:=
 match pmake k.pipes with
 |none=> ⟨k,0,5⟩
 |some (l,n)=> match freeFd p with
  |none=> ⟨k,0,5⟩
  |some a=> match freeFd (setFd p a n false) with
   |none=> ⟨k,0,5⟩
   |some b=> ⟨{k with pipes:=l,p:=put k.p (setFd (setFd p a n false) b n true)},((a:Int) + 256 * b) % 4294967296,0⟩
def thePipe (k:Kern) (p:Proc) (n:Int):Pipe:=(k.pipes[((getFd p n.toNat).1 - 1).toNat]?).getD ⟨ByteArray.empty,0,0⟩
def writes (k:Kern) (p:Proc) (x:Call):Tried:=
 if isEnd k p x.a=false∨(getFd p x.a.toNat).2=false then ⟨k,0,1⟩ else
 if Sg.outE p.mem x.b x.c ≠ 0 then ⟨k,0,Sg.outE p.mem x.b x.c⟩ else
 let r:=pwrite (thePipe k p x.a) (Sg.outS p.mem x.b x.c)
 if r.2.2 ≠ 0 then ⟨k,0,r.2.2⟩ else ⟨{k with pipes:=k.pipes.set ((getFd p x.a.toNat).1 - 1).toNat r.1},r.2.1 % 4294967296,0⟩
def reads (k:Kern) (p:Proc) (x:Call):Tried:=
 if isEnd k p x.a=false∨(getFd p x.a.toNat).2=true then ⟨k,0,1⟩ else
 if Sg.outE p.mem x.b x.c ≠ 0 then ⟨k,0,Sg.outE p.mem x.b x.c⟩ else
 let r:=pread (thePipe k p x.a) x.c
 if r.2.2 ≠ 0 then ⟨k,0,r.2.2⟩ else
 ⟨{k with pipes:=k.pipes.set ((getFd p x.a.toNat).1 - 1).toNat r.1,p:=put k.p {p with mem:=Sg.inM p.mem x.b r.2.1}},(r.2.1.size:Int) % 4294967296,0⟩
def closes (k:Kern) (p:Proc) (x:Call):Tried:=
 if isEnd k p x.a=false then ⟨k,0,1⟩ else
 ⟨{k with pipes:=pcount k.pipes (getFd p x.a.toNat).1 (getFd p x.a.toNat).2 (-1),p:=put k.p (setFd p x.a.toNat 0 false)},0,0⟩
def sends (k:Kern) (p:Proc) (x:Call):Tried:=
 match k.outs[x.a.toNat]? with
 |none=> ⟨k,0,7⟩
 |some c=> if Sg.outE p.mem x.b x.c ≠ 0 then ⟨k,0,Sg.outE p.mem x.b x.c⟩ else
  if c.size<(Sg.outS p.mem x.b x.c).size then ⟨k,0,4⟩ else ⟨{k with sent:=k.sent ++ [⟨x.a,Sg.outS p.mem x.b x.c⟩]},0,0⟩
def recvs (k:Kern) (p:Proc) (x:Call):Tried:=
 match k.ins_[x.a.toNat]?,k.box[x.a.toNat]? with
 |some c,some b=> match b.l with
  |[]=> ⟨k,0,6⟩
  |m::_=> if x.c<m.body.size then ⟨k,0,4⟩ else
   if Sg.inE p.mem x.b m.body ≠ 0 then ⟨k,0,Sg.inE p.mem x.b m.body⟩ else
   ⟨{k with box:=k.box.set x.a.toNat (btake c b),p:=put k.p {p with mem:=Sg.inM p.mem x.b m.body}},(m.body.size:Int) % 4294967296,0⟩
 |_,_=> ⟨k,0,7⟩
def oneByte (a:Int):ByteArray:=⟨#[UInt8.ofNat (a % 256).toNat]⟩
def tried (k:Kern) (p:Proc) (x:Call):Tried:=
 if x.n=4 then wait k p
 else if x.n=6 then ⟨k,p.pid % 4294967296,0⟩
 else if x.n=9 then ⟨k,k.now % 4294967296,0⟩
 else if x.n=10 then ⟨{k with cons:=k.cons ++ oneByte x.a},0,0⟩
 else if x.n=11 then pipes k p
 else if x.n=12 then writes k p x
 else if x.n=13 then reads k p x
 else if x.n=14 then closes k p x
 else if x.n=15 then sends k p x
 else if x.n=16 then recvs k p x
 else ⟨k,0,1⟩
def triesB (k:Kern) (pid:Int) (x:Call):Bool:= !((tried k ((find k.p pid).getD Proc.zero) x).e==6 && !(x.n==16))
def tries (k:Kern) (pid:Int) (x:Call):Kern:=
 let r:=tried k ((find k.p pid).getD Proc.zero) x
 if triesB k pid x=true then answer r.k ((find r.k.p pid).getD Proc.zero) x r.v r.e else r.k
def stops (k:Kern) (p:Proc) (st:Int) (x:Call):Kern:={k with p:=put k.p {p with st:=st,wn:=x.n,wa:=x.a,wb:=x.b,wc:=x.c},t:=tdrop k.t p.pid}
def victim (k:Kern) (x:Call):Bool:=((find k.p x.a).map (fun q=> !(q.st==4))).getD false
def kills (k:Kern) (p:Proc) (x:Call):Kern:=
 if x.a=1 then answer k p x 0 13 else if victim k x=false then answer k p x 0 7 else
 let k1:=ends k x.a 137 0
 if x.a=p.pid then k1 else answer k1 ((find k1.p p.pid).getD Proc.zero) x 0 0
def killsB (k:Kern) (p:Proc) (x:Call):Bool:=decide (x.a=1)|| !victim k x|| !decide (x.a=p.pid)
def forked (p:Proc):Proc:={p with par:=p.pid,r0:=0}
def spawned (p:Proc) (m:ByteArray):Proc:={Proc.zero with par:=p.pid,mem:=m}
def execd (p:Proc) (m:ByteArray):Proc:={p with mem:=m,r0:=0,r1:=0,r2:=0,r3:=0,r4:=0,r5:=0,r6:=0,r7:=0,pc:=0}
def asks (k:Kern) (p:Proc) (x:Call):Kern:=
 if x.n=1 then ends k p.pid (x.a % 256) 0
 else if x.n=7 then {answer k p x 0 0 with t:=tyield k.t}
 else if x.n=8 then (if 0<x.a then {stops k p 3 x with s:=sadd k.s ⟨til k.now x.a,p.pid⟩} else answer k p x 0 0)
 else if x.n=20 then (if 3≤x.a then answer k p x 0 1 else answer {k with want:=3 + x.a} p x 0 0)
 else if x.n=19 then answer {k with want:=k.want + 1 + 1} p x 0 0
 else if x.n=18 then answer {k with want:=k.want + 1} p x 0 0
 else if x.n=5 then kills k p x
 else if x.n=3 then answer (fresh k (forked p)) p x (freshV k) (freshE k)
 else if x.n=2 then (if imageE k x.a=0 then answer (fresh k (spawned p (imageM k x.a))) p x (freshV k) (freshE k) else answer k p x 0 (imageE k x.a))
 else if x.n=17 then answer k (if imageE k x.a=0 then execd p (imageM k x.a) else p) x 0 (imageE k x.a)
 else if triesB k p.pid x=true then tries k p.pid x else stops (tries k p.pid x) p 2 x
def asksB (k:Kern) (p:Proc) (x:Call):Bool:=
 if x.n=1 then false else if x.n=7 then false else if x.n=8 then !decide (0<x.a)
 else if x.n=20 then true else if x.n=19 then true else if x.n=18 then true else if x.n=5 then killsB k p x
 else if x.n=3 then true else if x.n=2 then true else if x.n=17 then true else triesB k p.pid x
def wake1 (k:Kern) (pid:Int):Kern:=
 match find k.p pid with
 |some p=> if p.st=3 then {answer k p p.want 0 0 with t:=tadd k.t pid} else k
 |none=> k
def wake2 (k:Kern) (p:Proc):Kern:=
 if p.st=2 then (if triesB k p.pid p.want=true then {tries k p.pid p.want with t:=tadd (tries k p.pid p.want).t p.pid} else tries k p.pid p.want) else k
def wakes1 (k:Kern):Kern:=(due k.s k.now).foldl wake1 {k with s:=rest k.s k.now}
def wakes (k:Kern):Kern:=(wakes1 k).p.foldl wake2 (wakes1 k)
def stepped (p:Proc):Cp.St:=Cp.step [p.r0,p.r1,p.r2,p.r3,p.r4,p.r5,p.r6,p.r7] p.pc p.mem
def Proc.with_ (p:Proc) (s:Cp.St):Proc:={p with r0:=s.rs.getD 0 0,r1:=s.rs.getD 1 0,r2:=s.rs.getD 2 0,r3:=s.rs.getD 3 0,r4:=s.rs.getD 4 0,r5:=s.rs.getD 5 0,r6:=s.rs.getD 6 0,r7:=s.rs.getD 7 0,pc:=s.pc,mem:=s.m}
def goes (k:Kern):Kern:=
 match k.t.l with
 |[]=> k
 |pid::_=>
  let p:=(find k.p pid).getD Proc.zero
  let s:=stepped p
  let q:=p.with_ s
  let k1:={k with p:=put k.p q}
  if s.t=0 then {k1 with t:=tspend k1.t}
  else if s.t=3 then (if asksB k1 q q.from_=true then {asks k1 q q.from_ with t:=tspend (asks k1 q q.from_).t} else asks k1 q q.from_)
  else ends k pid (128 + s.t) s.t
def step (k:Kern):Kern:=
 let k1:={k with sent:=[],want:=0}
 let k2:=if k.gone=0 then goes (wakes k1) else k1
 {k2 with now:=til k2.now 1}
def run:Nat→Kern→Kern
 |0,k=> k
 |n + 1,k=> run n (step k)
def arrive (k:Kern) (n:Int) (body:ByteArray) (at_:Int):Kern:=
 if n<0∨(k.ins_.length:Int)≤n∨(k.box.length:Int)≤n then k else
 match k.ins_[n.toNat]?,k.box[n.toNat]? with
 |some c,some b=> {k with box:=k.box.set n.toNat (bsend c b at_ body)}
 |_,_=> k
def boot (mem:Int) (images:List ByteArray) (outs ins:List Chan) (now:Int):Kern:=
 let k0:Kern:={p:=[],t:=⟨[],0⟩,s:=[],pipes:=[],hs:=if mem<0 then 0 else mem,h:=[],now:=now,images:=images,outs:=outs,ins_:=ins,box:=List.replicate ins.length ⟨[],0⟩,cons:=⟨#[]⟩,trace:=[],sent:=[],want:=0,gone:=0}
 let k1:=if imageE k0 0=0 then fresh k0 {Proc.zero with mem:=imageM k0 0} else k0
 if (if imageE k0 0=0 then freshE k0 else imageE k0 0)=0 then k1 else {k1 with gone:=1}
end Kn
end Go.Proofs.YtbeakngieodlhaaGreatDoor
