/- transomref05.takes and counted: numbers off bytes. Condition: bytes are as many as a string can have. -/
import Derived.Test.YthgehdghihbiaaaGreatDoorGPlT
import Derived.Deep.RegionLaw
set_option linter.unusedVariables false
set_option maxRecDepth 100000
set_option maxHeartbeats 8000000
set_option linter.unusedSimpArgs false
namespace Go.Proofs.YthgehdghihbiaaaGreatDoor
open Go.RowKit
namespace RfT
def PS (st:Pl.St) (rest:ByteArray) (bad:Int):Prop:=
 match st with
 | .ok l=> bad=0∧rest.data.toList=l∧rest.size≤140737488355328
 | .error c=> bad=c∧c ≠ 0
def Took (many:Nat) (st:Pl.St) (w:World) (e:Ending) (W:World):Prop:=
 ∃ nv rest bad,e=.returned (.agg #[nv,.string rest,.int .i64 bad])∧Below w.heap.size w W∧PS (Pl.anysS many st).2 rest bad∧
   ((bad ≠ 0∧nv=.slice none 0 0)∨(bad=0∧W.ownsRow w.heap.size 3 1 nv many (intCells (Pl.anysS many st).1)))
theorem _root_.Go.Proofs.YthgehdghihbiaaaGreatDoor.Tk.bel_set' {w W:World} {k j:Nat} {v:Value} (h:Below w.heap.size w W) (hk:w.heap.size≤k):Below w.heap.size w (W.setCell ⟨k,j,none⟩ v):=h.trans ⟨rfl,rfl,rfl,by simp [World.setCell],fun i hi=> Rdr.heap_set_ne (by omega)⟩
theorem _root_.Go.Proofs.YthgehdghihbiaaaGreatDoor.Tk.alloc_size1' (W:World) (o:Obj):(W.alloc o).heap.size=W.heap.size + 1:=by simp
theorem res3 {W:World} {b:Nat} {tmps:Array Value} {x0 x1 x2:Value} (hh:W.heap[b]? =some (.cells #[x0,x1,x2] 117 (0,0))) (h4:tmps.getD 4 undef=.pointer (some ⟨b,0,none⟩)):
 (results Tryz.f36 tmps).run Tryz.prog W=.ok (.agg #[x0,x1,x2]) W:=
 results_cell_row Tryz.results36 _ _ b _ _ _ _ h4 hh Tryz.underlying117 rfl (by kernel_rfl)
theorem set3 {W:World} {b:Nat} {c0 c1 c2 x0 x1 x2:Value} {T:TypeId} (hh:W.heap[b]? =some (.cells #[c0,c1,c2] T (0,0))):(((W.setCell ⟨b,0,none⟩ x0).setCell ⟨b,1,none⟩ x1).setCell ⟨b,2,none⟩ x2).heap[b]? =some (.cells #[x0,x1,x2] T (0,0)):=
 Tk.set_heap (Tk.set_heap (Tk.set_heap hh))
theorem bel3 {w W:World} (h:Below w.heap.size w W) {b:Nat} (hb:w.heap.size≤b) (x0 x1 x2:Value):Below w.heap.size w (((W.setCell ⟨b,0,none⟩ x0).setCell ⟨b,1,none⟩ x1).setCell ⟨b,2,none⟩ x2):=
 Tk.bel_set' (Tk.bel_set' (Tk.bel_set' h hb) hb) hb
theorem own3 {W:World} {B b:Nat} {c:Array Value} {T E:TypeId} {n:Nat} {v x0 x1 x2:Value} {xs:List Value} (h:W.ownsRow B E 1 v n xs) (hh:W.heap[b]? =some (.cells c T (0,0))) (hT:T ≠ E):(((W.setCell ⟨b,0,none⟩ x0).setCell ⟨b,1,none⟩ x1).setCell ⟨b,2,none⟩ x2).ownsRow B E 1 v n xs:=
 ownsRow_same h (fun g hg=> by
  obtain ⟨_,_,cur,hc⟩:=ownBlock_lt h hg
  have hne:=Tk.ne_of_types hc hh hT.symm
  rw [Rdr.heap_set_ne hne,Rdr.heap_set_ne hne,Rdr.heap_set_ne hne])
theorem infoInt:(Tryz.prog.info? 3).map (fun i=> (i.zero,i.size,i.bytes))=some (some (.int .i64 0),1,8):=by kernel_rfl
theorem step_append_run {P:Program} {ops:Array Oper} {o:Oper} {a:Act} {w:World} {K:Act→World→Prop} {Q:Exit→Act→World→Prop} {E:Prop}
 (hg:o.guard=none) (s x:Operand) (t u:TypeId) (hop:o.op=Op.call {callee:=Callee.builtin Builtin.append,args:=#[s,x],argTypes:=#[t,u]})
 (sv xv:Value) (hs:a.eval s=sv) (hx:a.eval x=xv) (v':Value) (w':World) (hrun:(Builtin.append_ #[t,u] o.type #[sv,xv]).run P w=.ok v' w') (hK:K (a.put o.dst v') w'):
 if Region.wanted o (yielded ops a.tmps)=true then Oper.wp P o a w K Q else E:=by
 have hw:Region.wanted o (yielded ops a.tmps)=true:=by simp [Region.wanted,hg]
 rw [if_pos hw]
 unfold Oper.wp
 simp [execOp,hop,resolve,invoke,builtin,hs,hx,hrun,Result.andThen]
 exact hK
theorem short {r:ByteArray} (h:r.size<2):Pl.numS 65536 (.ok r.data.toList)=(0,.error 2):=by
 have hl:r.data.toList.length<2:=by rw [Array.length_toList];exact h
 match h2:r.data.toList,hl with
 |[],_=> rfl
 |[x],_=> rfl
theorem stays {W W':World} {B k n:Nat} {v:Value} {xs:List Value} {c:Array Value} {T:TypeId} {o:Obj} (hh:W.heap[k]? =some (.cells c T (0,0))) (hown:W.ownsRow B 3 1 v n xs) (hg:(W.drew.alloc o).grownBy W' v.ownBlock) (hT:T ≠ 3:=by decide):W'.heap[k]? =some (.cells c T (0,0)):=by
 have hlt:=Rdr.heap_lt hh
 have h1:W.drew.heap[k]? =some (.cells c T (0,0)):=hh
 have hlt':k<W.drew.heap.size:=hlt
 rw [hg.block k (by simp;omega) (by
  intro hx
  obtain ⟨_,_,cur,hc⟩:=ownBlock_lt hown hx.symm
  exact Tk.ne_of_types hh hc hT rfl),Lib.alloc_old W.drew _ k hlt',h1]
def At (w:World) (many:Nat) (l:List UInt8) (iv:Value) (W:World):Prop:=
 ∃ (i:Nat) (xs:List Int) (nv:Value) (r:ByteArray),i≤many∧iv=.int .i64 (i:Int)∧xs.length=i∧Below w.heap.size w W∧
   W.heap[w.heap.size + 1]? =some (.cells #[.slice none 0 0,.string ByteArray.empty,.int .i64 0] 117 (0,0))∧W.heap[w.heap.size + 1 + 1]? =some (.cells #[nv,.string r,.int .i64 0] 117 (0,0))∧
   W.ownsRow w.heap.size 3 1 nv i (intCells xs)∧r.size≤140737488355328∧Pl.anysS many (.ok l)=(xs ++ (Pl.anysS (many - i) (.ok r.data.toList)).1,(Pl.anysS (many - i) (.ok r.data.toList)).2)
theorem num_two {r:ByteArray} (h:2≤r.size):Pl.numS 65536 (.ok r.data.toList)=((256:Int) * ((r[0].toNat:Nat):Int) + ((r[1].toNat:Nat):Int),.ok (r.extract 2 r.size).data.toList):=by
 have h0:=r[0].toNat_lt
 have h1:=r[1].toNat_lt
 rw [Rdr.numS_two r h,if_neg (by omega)]
 refine Prod.ext ?_ rfl
 show ((r[0].toNat * 256 + r[1].toNat:Nat):Int)=_
 omega
theorem at_next {w wr W':World} {many i:Nat} {l:List UInt8} {xs:List Int} {v v':Value} {r:ByteArray} {o:Obj} {x:Int} (hi:i<many) (hxl:xs.length=i) (hbel:Below w.heap.size w wr)
 (h1:wr.heap[w.heap.size + 1]? =some (.cells #[.slice none 0 0,.string ByteArray.empty,.int .i64 0] 117 (0,0))) (h2:wr.heap[w.heap.size + 1 + 1]? =some (.cells #[v,.string r,.int .i64 0] 117 (0,0)))
 (hown:wr.ownsRow w.heap.size 3 1 v i (intCells xs)) (hz:r.size≤140737488355328) (heq:Pl.anysS many (.ok l)=(xs ++ (Pl.anysS (many - i) (.ok r.data.toList)).1,(Pl.anysS (many - i) (.ok r.data.toList)).2))
 (hn:Pl.numS 65536 (.ok r.data.toList)=(x,.ok (r.extract 2 r.size).data.toList)) (ho:W'.ownsRow w.heap.size 3 1 v' (i + 1) (intCells xs ++ [.int .i64 x])) (hg:(wr.drew.alloc o).grownBy W' v.ownBlock):
 At w many l (.int .i64 ((i:Int) + 1)) ((W'.setCell ⟨w.heap.size + 1 + 1,0,none⟩ v').setCell ⟨w.heap.size + 1 + 1,1,none⟩ (.string (r.extract 2 r.size))):=by
 have s1:=stays h1 hown hg
 have s2:=stays h2 hown hg
 have hgs:=hg.size
 simp at hgs
 have hgs':wr.heap.size + 1≤W'.heap.size:=hgs
 have hz1:=hbel.size
 have hb':Below w.heap.size w W':=hbel.trans ⟨hg.os,hg.tape.trans rfl,hg.output,by omega,fun k hk=> by
  have hk':k<wr.drew.heap.size:=Nat.lt_of_lt_of_le hk hz1
  rw [hg.block k (by simp;omega) (by
   intro hh
   obtain ⟨hge,_⟩:=ownBlock_lt hown hh.symm
   omega),Lib.alloc_old wr.drew _ k hk']
  rfl⟩
 refine ⟨i + 1,xs ++ [x],v',r.extract 2 r.size,by omega,by simp,by simp [hxl],Tk.bel_set' (Tk.bel_set' hb' (by omega)) (by omega),?_,Tk.set_heap (Tk.set_heap s2),?_,by rw [ByteArray.size_extract];omega,?_⟩
 · rw [Rdr.heap_set_ne (by omega),Rdr.heap_set_ne (by omega)]
   exact s1
 · have ho':W'.ownsRow w.heap.size 3 1 v' (i + 1) (intCells (xs ++ [x])):=by simpa [intCells] using ho
   exact ownsRow_same ho' (fun g hgb=> by
    obtain ⟨_,_,cur,hc⟩:=ownBlock_lt ho' hgb
    have hne:=Tk.ne_of_types hc s2 (by decide)
    rw [Rdr.heap_set_ne hne,Rdr.heap_set_ne hne])
 · have hk:many - i=(many - (i + 1)) + 1:=by omega
   rw [heq,hk]
   simp only [Pl.anysS,hn,List.append_assoc,List.cons_append,List.nil_append]
theorem takes (many:Nat) (nv:Value) (rest:ByteArray) (bad:Int) (st:Pl.St) (w:World) (hm:many≤5) (hs:PS st rest bad) (a0:Option Addr) (n0 c0:Nat) (hnv:nv=.slice a0 n0 c0):
 Calls Tryz.prog 36 #[.agg #[nv,.string rest,.int .i64 bad],.int .i64 (many:Int)] w (Took many st w):=by
 subst hnv
 match st,hs with
 | .error c,hs=>
   obtain ⟨rfl,hc⟩:=hs
   have hcI:((c:Int)==0)=false:=by simp;omega
   go_enter Tryz.func36,Tryz.ntmps36
   repeat' (first|go_values|go_skip|go_guarded|(with_reducible refine wg ?_)|go_step|go_upon|go_quiet (fail))
   refine wp_loop_rounds 1 ?_
   rw [rounds_succ]
   repeat' (first|go_values|go_skip|go_guarded|(with_reducible refine wg ?_)|go_step|go_upon|go_quiet (fail))
   all_goals
    have h1:=Rdr.heap_new (w.alloc (.cells #[.slice a0 n0 c0,.string rest,.int .i64 c] 117)) (.cells #[.slice none 0 0,.string rest,.int .i64 c] 117)
    rw [Tk.alloc_size1'] at h1
    (try simp only [Exit.inBlock,Exit.then]);refine bodyPost_ret (res3 (Rdr.heap_old h1) rfl) rfl ?_
    exact ⟨_,_,_,rfl,bel,by rw [Pl.anysS_err];exact ⟨rfl,hc⟩,.inl ⟨by omega,rfl⟩⟩
 | .ok l,hs=>
   obtain ⟨rfl,hl,hz⟩:=hs
   go_enter Tryz.func36,Tryz.ntmps36
   repeat' (first|go_values|go_skip|go_guarded|(with_reducible refine wg ?_)|go_step|go_upon|go_quiet (fail))
   go_loopw [6] (fun v wr=> At w many l v wr) (fun v _=> many - (intOf v).toNat)
   case atStart=>
    have h1:=Rdr.heap_new (w.alloc (.cells #[.slice a0 n0 c0,.string rest,.int .i64 0] 117)) (.cells #[.slice none 0 0,.string ByteArray.empty,.int .i64 0] 117)
    have h2:=Rdr.heap_new ((w.alloc (.cells #[.slice a0 n0 c0,.string rest,.int .i64 0] 117)).alloc (.cells #[.slice none 0 0,.string ByteArray.empty,.int .i64 0] 117)) (.cells #[.slice none 0 0,.string rest,.int .i64 0] 117)
    rw [Tk.alloc_size1'] at h1
    rw [Tk.alloc_size1',Tk.alloc_size1'] at h2
    exact ⟨0,[],_,rest,Nat.zero_le _,rfl,rfl,bel,Rdr.heap_old h1,h2,World.ownsRow_nil _ _ _ _,hz,by rw [hl];rfl⟩
   case round=>
    obtain ⟨i,xs,nv,r,hi,rfl,hxl,hbel,h1,h2,hown,hz',heq⟩:=hrel
    obtain ⟨na,nc,rfl⟩:=ownsRow_slice hown
    have HEQ:=hU heq
    have o0:=Rdr.heap_cell h2 0
    have o1:=Rdr.heap_cell h2 1
    have o2:=Rdr.heap_cell h2 2
    have g0:=Lib.frozen_of_heap h2 0
    have g1:=Lib.frozen_of_heap h2 1
    have o0':wr.cell? ⟨w.heap.size + 1 + 1,0,none⟩=some (.slice na i nc):=o0
    have o1':wr.cell? ⟨w.heap.size + 1 + 1,1,none⟩=some (.string r):=o1
    have o2':wr.cell? ⟨w.heap.size + 1 + 1,2,none⟩=some (.int .i64 0):=o2
    have q0':wr.cell? ⟨w.heap.size + 1,0,none⟩=some (.slice none 0 0):=Rdr.heap_cell h1 0
    have q1':wr.cell? ⟨w.heap.size + 1,1,none⟩=some (.string ByteArray.empty):=Rdr.heap_cell h1 1
    have q2':wr.cell? ⟨w.heap.size + 1,2,none⟩=some (.int .i64 0):=Rdr.heap_cell h1 2
    have k0:=Lib.frozen_of_heap h1 0
    have k1:=Lib.frozen_of_heap h1 1
    have k2:=Lib.frozen_of_heap h1 2
    clear o0 o1 o2
    by_cases hlt:i<many
    · by_cases hr:r.size<2
      · have hsh:=short hr
        have HB:=hU (bel3 hbel (b:=w.heap.size + 1) (by omega) (.slice none 0 0) (.string ByteArray.empty) (.int .i64 2))
        have HS:=hU (set3 (x0:=.slice none 0 0) (x1:=.string ByteArray.empty) (x2:=.int .i64 2) h1)
        have HST:=hU (show (Pl.anysS many (.ok l)).2=.error 2 by
         have hk:many - i=(many - (i + 1)) + 1:=by omega
         rw [heq,hk]
         simp only [Pl.anysS,hsh,Pl.anysS_err])
        clear hsh
        repeat' (first|go_values|go_skip|go_guarded|(with_reducible refine wg ?_)|go_step|go_upon|go_quiet (fail))
        (try simp only [Exit.inBlock,Exit.then]);refine bodyPost_ret (res3 HS.out rfl) rfl ?_
        exact ⟨_,_,_,rfl,HB.out,by rw [HST.out];exact ⟨rfl,by decide⟩,.inl ⟨by decide,rfl⟩⟩
      · have hr2:2≤r.size:=by omega
        have b0:(r[0].toNat:Int)≤255:=by have:=r[0].toNat_lt;omega
        have b1:(r[1].toNat:Int)≤255:=by have:=r[1].toNat_lt;omega
        have x0:(0:Int)<r.size:=by omega
        have y0:0<r.size:=by omega
        have y1:1<r.size:=by omega
        have x1:(1:Int)<r.size:=by omega
        obtain ⟨g,cap,W',hrun,ho',hg',hgg,hgl⟩:=append_one (P:=Tryz.prog) (t:=58) (ty:=58) Tryz.underlying58 infoInt rfl (W:=wr.drew) (x:=.int .i64 ((256:Int) * ((r[0].toNat:Nat):Int) + ((r[1].toNat:Nat):Int))) (show wr.drew.ownsRow w.heap.size 3 1 (.slice na i nc) i (intCells xs) from hown) rfl (by omega) (by omega) (show w.heap.size≤wr.heap.size from hbel.size)
        have wA:IntKind.i64.wrap ((r[0].toNat:Nat):Int)=((r[0].toNat:Nat):Int):=by simp [IntKind.wrap,IntKind.bits,IntKind.signed];omega
        have wB:IntKind.i64.wrap ((r[1].toNat:Nat):Int)=((r[1].toNat:Nat):Int):=by simp [IntKind.wrap,IntKind.bits,IntKind.signed];omega
        have wC:IntKind.i64.wrap ((256:Int) * ((r[0].toNat:Nat):Int))=(256:Int) * ((r[0].toNat:Nat):Int):=by simp [IntKind.wrap,IntKind.bits,IntKind.signed];omega
        have wD:IntKind.i64.wrap ((256:Int) * ((r[0].toNat:Nat):Int) + ((r[1].toNat:Nat):Int))=(256:Int) * ((r[0].toNat:Nat):Int) + ((r[1].toNat:Nat):Int):=by simp [IntKind.wrap,IntKind.bits,IntKind.signed];omega
        have hg2:((wr.alloc (.cells #[.int .i64 ((256:Int) * ((r[0].toNat:Nat):Int) + ((r[1].toNat:Nat):Int))] 3)).drew).grownBy W' (Value.slice na i nc).ownBlock:=hg'
        have HRUN:Hid ((Builtin.append_ #[58,58] 58 #[.slice na i nc,.slice (some ⟨wr.heap.size,0,none⟩) 1 1]).run Tryz.prog ((wr.alloc (.cells #[.int .i64 ((256:Int) * ((r[0].toNat:Nat):Int) + ((r[1].toNat:Nat):Int))] 3)).drew)=.ok (.slice (some ⟨g,0,none⟩) (i + 1) cap) W'):=hU hrun
        have hst:=stays h2 hown hg'
        have hl2:w.heap.size + 1 + 1<wr.heap.size:=Rdr.heap_lt h2
        have n1:W'.cell? ⟨w.heap.size + 1 + 1,1,none⟩=some (.string r):=Rdr.heap_cell hst 1
        have n0:W'.cell? ⟨w.heap.size + 1 + 1,0,none⟩=some (.slice na i nc):=Rdr.heap_cell hst 0
        have n1':W'.frozen? ⟨w.heap.size + 1 + 1,1,none⟩=false:=Lib.frozen_of_heap hst 1
        have HN:=hU (at_next hlt hxl hbel h1 h2 hown hz' heq (num_two hr2) ho' hg')
        have n0':W'.frozen? ⟨w.heap.size + 1 + 1,0,none⟩=false:=Lib.frozen_of_heap hst 0
        have hst1:=stays h1 hown hg'
        clear hrun
        repeat' (first|go_values|go_skip|go_guarded|(with_reducible refine wg ?_)|go_step|go_upon)
        go_region_law (first|(refine step_append_run rfl _ _ _ _ rfl _ _ rfl rfl _ _ HRUN.out ?_))
        all_goals
         repeat' (first|go_values|go_skip|go_guarded|(with_reducible refine wg ?_)|go_step|go_upon|go_quiet (fail))
         exact ⟨HN.out,by simp [intOf];omega⟩
    · obtain rfl:i=many:=by omega
      have HB:=hU (bel3 hbel (b:=w.heap.size + 1) (by omega) (.slice na i nc) (.string r) (.int .i64 0))
      have HS:=hU (set3 (x0:=.slice na i nc) (x1:=.string r) (x2:=.int .i64 0) h1)
      have HO:=hU (own3 (x0:=.slice na i nc) (x1:=.string r) (x2:=.int .i64 0) hown h1 (by decide))
      rw [Nat.sub_self] at heq
      have e1:(Pl.anysS i (.ok l)).1=xs:=by rw [heq];simp [Pl.anysS]
      have e2:(Pl.anysS i (.ok l)).2=.ok r.data.toList:=by rw [heq];rfl
      have HE:=hU (And.intro e1 e2)
      clear heq e1 e2
      repeat' (first|go_values|go_skip|go_guarded|(with_reducible refine wg ?_)|go_step|go_upon|go_quiet (fail))
      (try simp only [Exit.inBlock,Exit.then]);refine bodyPost_ret (res3 HS.out rfl) rfl ?_
      exact ⟨_,_,_,rfl,HB.out,by rw [HE.out.2];exact ⟨rfl,rfl,hz'⟩,.inr ⟨rfl,by rw [HE.out.1];exact HO.out⟩⟩
end RfT
end Go.Proofs.YthgehdghihbiaaaGreatDoor
