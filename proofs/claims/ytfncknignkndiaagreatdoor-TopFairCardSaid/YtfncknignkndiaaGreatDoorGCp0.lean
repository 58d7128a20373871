/- isa.May answers whether an instruction may be, in every world that holds the table isa.uses. Conditions: as told. -/
import Derived.Test.YtfncknignkndiaaGreatDoorProg
import Derived.Test.YtfncknignkndiaaGreatDoorG0
namespace Go.Proofs.YtfncknignkndiaaGreatDoor
open Tryz
open Go.RowKit
def Tab (w:World):Prop:=∀ k,k<25→w.cell? ⟨0,k,none⟩=some (.int .i64 (Cp.tbl.getD k 0))
theorem Tab.lt {w:World} (h:Tab w):0<w.heap.size:=World.block_lt_of_cell? w _ (h 0 (by omega))
theorem Tab.below {w w':World} (h:Tab w) (hb:Below w.heap.size w w'):Tab w':=fun k hk=> (hb.cell (p:=⟨0,k,none⟩) h.lt).trans (h k hk)
namespace May
set_option maxHeartbeats 1000000 in
theorem no (op a b i:Int) (w:World) (h:op<1∨24<op∨a<0∨8≤a∨b<0∨8≤b∨i < -32768∨32767<i):
 Calls prog 183 #[.agg #[.int .i64 op,.int .i64 a,.int .i64 b,.int .i64 i]] w (aN (.bool false) w):=by
 go_in;go_wp2
 all_goals (go_ret;exact ⟨rfl,bel⟩)
set_option maxHeartbeats 2000000 in
theorem yes (op a b i u:Int) (w:World) (h0:1≤op) (h1:op≤24) (h2:0≤a) (h3:a<8) (h4:0≤b) (h5:b<8) (h6: -32768≤i) (h7:i≤32767)
 (hc:w.cell? ⟨0,op.toNat,none⟩=some (.int .i64 u)) (hw:0<w.heap.size):
  Calls prog 183 #[.agg #[.int .i64 op,.int .i64 a,.int .i64 b,.int .i64 i]] w
   (aN (.bool (((bits BinOp.and IntKind.i64 u 1 !=0)||0==a) && ((bits BinOp.and IntKind.i64 u 2 !=0)||0==b) && ((bits BinOp.and IntKind.i64 u 4 !=0)||0==i))) w):=by
 go_in;go_wp2
 all_goals (go_ret;refine cE ?_ bel)
 all_goals (first|rfl|grind)
end May
theorem nN (op a b i:Int) (w:World) (hT:Tab w):Calls prog 183 #[.agg #[.int .i64 op,.int .i64 a,.int .i64 b,.int .i64 i]] w (aN (.bool (Cp.may op a b i)) w):=by
 by_cases h:Cp.lim op a b i=true
 · obtain ⟨h0,h1,h2,h3,h4,h5,h6,h7⟩:=Cp.zU.1 h;obtain ⟨qa,qb,qi⟩:=Cp.qQh op h0 h1;have:=May.yes op a b i _ w h0 h1 h2 h3 h4 h5 h6 h7 (hT op.toNat (by omega)) hT.lt
   rw [qa,qb,qi] at this;simpa [Cp.may,h] using this
 · have h':Cp.lim op a b i=false:=by simpa using h
   have:op<1∨24<op∨a<0∨8≤a∨b<0∨8≤b∨i < -32768∨32767<i:=by
    simp only [Cp.lim,decide_eq_false_iff_not] at h';omega
   simpa [Cp.may,h'] using May.no op a b i w this
namespace Does
theorem fC {w1:World} {B:Nat} {rs:List Int} (hc:∀ o,w1.cell? ⟨B,o,none⟩=(rs.map (Value.int .u32))[o]?) (k:Nat) (_hk:k<rs.length) (n:Nat) (x:Int) (j:Nat) (hj:j<rs.length):
 ((w1.drewN n).setCell ⟨B,k,none⟩ (.int .u32 x)).cell? ⟨B,j,none⟩=some (.int .u32 (Cp.upd rs k x j)):=by
 have h0:(w1.drewN n).cell? ⟨B,j,none⟩=some (.int .u32 (rs.getD j 0)):=by
  show w1.cell? ⟨B,j,none⟩=_
  rw [hc];simp [List.getElem?_eq_getElem hj]
 by_cases h:k=j
 · subst h;rw [World.cell?_setCell_same _ _ _ h0];simp [Cp.upd,hj]
 · rw [World.cell?_setCell_other _ _ _ _ (by intro e;injection e;omega),h0];simp [Cp.upd,h]
theorem sel (rs:List Int) (hl:rs.length=8) (pc:Int) (a:Int) (h0:0≤a) (h1:a<8):((rs ++ [pc]).map (Value.int .u32))[a.toNat]? =some (.int .u32 (rs.getD a.toNat 0)):=by
 have:a.toNat<rs.length:=by omega
 rw [List.map_append,List.getElem?_append_left (by simpa using this)];simp [List.getElem?_eq_getElem this]
