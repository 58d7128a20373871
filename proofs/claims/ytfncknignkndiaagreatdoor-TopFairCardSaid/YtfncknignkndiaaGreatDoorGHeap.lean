/- heap.Right: is a room right? Condition: the spans lie there. Conditions: as told. -/
import Derived.Test.YtfncknignkndiaaGreatDoorGTabF
import Derived.Test.YtfncknignkndiaaGreatDoorGPort
set_option linter.unusedVariables false
set_option maxRecDepth 100000
set_option maxHeartbeats 8000000
set_option linter.unusedSimpArgs false
namespace Go.Proofs.YtfncknignkndiaaGreatDoor
open Tryz
open Go.RowKit KR
namespace Kn
abbrev SlS (W:World) (v:Value) (l:List Span):Prop:=Sl 208 3 Span.cells W v l
abbrev OwnS (B:Nat) (W:World) (v:Value) (l:List Span):Prop:=KR.Own 208 3 Span.cells B W v l
def qRc (w:World) (size:Int) (l:List Span) (av iv:Value) (wr:World):Prop:=
 ∃ (k:Nat) (a:Int),k≤l.length∧iv=.int .i64 k∧av=.int .i64 a∧0≤a∧(a=0∨a≤size)∧aV size l 0=aV size (l.drop k) a∧Below w.heap.size w wr
theorem qIl {size a:Int} {l:List Span} {k:Nat} {s:Span} (hx:l[k]? =some s) (h1:¬ s.at_<a) (h2:¬ s.n<1) (h3:¬ size<s.n) (h4:¬ size - s.n<s.at_):aV size (l.drop k) a=aV size (l.drop (k + 1)) (s.at_ + s.n):=by
 rw [(cD hx).2,aV];simp [h1,h2,h3,h4]
theorem qPx {size a:Int} {l:List Span} {k:Nat} {s:Span} (hx:l[k]? =some s) (h:s.at_<a∨s.n<1∨size<s.n∨size - s.n<s.at_):aV size (l.drop k) a=false:=by
 rw [(cD hx).2,aV];rcases h with h|h|h|h <;> simp [h]
theorem qUy (u:Value) (size:Int) (l:List Span) (w:World) (h:SlS w u l) (hs0: -9223372036854775808≤size) (hs1:size≤9223372036854775807):
 Calls prog 112 #[.agg #[.int .i64 size,u]] w (aN (.bool (eO size l)) w):=by
 obtain ⟨a,c,rfl,hnc,hmax⟩:=h.shape;obtain ⟨_,_,_,hel⟩:=h.elem;have HEL:=hU hel;clear hel h;go_in;refine sg ?_;intros;have HB0:=hU ((Below.refl w.heap.size w).alloc (Nat.le_refl _) (.cells #[.int .i64 size,.slice a l.length c] 34));have HH0:=hU (fZ w (.cells #[.int .i64 size,.slice a l.length c] 34));go_loopw [3,9] (fun av iv wr=> qRc (w.alloc (.cells #[.int .i64 size,.slice a l.length c] 34)) size l av iv wr) (fun _ iv _=> l.length - (intOf iv).toNat)
 case atStart=> exact ⟨0,0,Nat.zero_le _,rfl,rfl,Int.le_refl _,.inl rfl,rfl,Below.refl _ _⟩
 case round=>
  obtain ⟨k,at_,hk,rfl,rfl,ha0,ha1,he,hb⟩:=hrel;have HB:=hU hb;have HE:=hU he;have HHr:=hU ((hb.block w.heap.size (by simp)).trans HH0.out);have hz:=hb.size;simp only [World.size_alloc] at hz;have k0:wr.cell? ⟨w.heap.size,0,none⟩=some (.int .i64 size):=aC HHr.out 0;clear hb he;by_cases hlt:k<l.length
  · obtain ⟨x,hx⟩:∃ x,l[k]? =some x:=⟨_,List.getElem?_eq_getElem hlt⟩
    obtain ⟨b,off,rfl,hbl,hcell'⟩:=HEL.out k x hx;have hc:=hcell' wr (Below.to HB0.out HB.out);have q0:wr.cell? ⟨b,off + k * 3,none⟩=some (.int .i64 x.at_):=hc 0 _ rfl;have q1:wr.cell? ⟨b,off + k * 3 + 1,none⟩=some (.int .i64 x.n):=hc 1 _ rfl;have q2:wr.cell? ⟨b,off + k * 3 + 2,none⟩=some (.int .i64 x.who):=hc 2 _ rfl;have hbr:b<wr.heap.size:=by omega
    have hwz:w.heap.size<wr.heap.size:=by omega
    have HST:=hU (@qIl size at_ l k x hx);have HNO:=hU (@qPx size at_ l k x hx);clear hcell' hx hc;by_cases c1:x.at_<at_
    · have HF:=hU (HNO.out (.inl c1));refine sg ?_;intros;go_ret;exact cE (by rw [eO,HE.out,HF.out];rfl) (Below.to HB0.out (Below.to HB.out bel))
    by_cases c2:x.n<1
    · have HF:=hU (HNO.out (.inr (.inl c2)));refine sg ?_;intros;go_ret;exact cE (by rw [eO,HE.out,HF.out];rfl) (Below.to HB0.out (Below.to HB.out bel))
    by_cases c3:size<x.n
    · have HF:=hU (HNO.out (.inr (.inr (.inl c3))));refine sg ?_;intros;go_ret;exact cE (by rw [eO,HE.out,HF.out];rfl) (Below.to HB0.out (Below.to HB.out bel))
    have hw4:IntKind.i64.wrap (size - x.n)=size - x.n:=by rw [IntKind.wrap_i64];omega
    by_cases c4:size - x.n<x.at_
    · have HF:=hU (HNO.out (.inr (.inr (.inr c4))));refine sg ?_;intros;go_ret;exact cE (by rw [eO,HE.out,HF.out];rfl) (Below.to HB0.out (Below.to HB.out bel))
    have HS:=hU (HST.out c1 c2 c3 c4);have hw5:IntKind.i64.wrap (x.at_ + x.n)=x.at_ + x.n:=by rw [IntKind.wrap_i64];omega
    refine sg ?_;intros;exact ⟨⟨k + 1,x.at_ + x.n,by omega,by go_num,by go_num,by omega,.inr (by omega),by rw [HE.out,HS.out],Below.to HB.out bel⟩,by simp [intOf];omega⟩
  · obtain rfl:k=l.length:=by omega
    rw [List.drop_length] at *;refine sg ?_;intros;go_ret;exact cE (by rw [eO,HE.out];simp [aV]) (Below.to HB0.out HB.out)
def xAl (W:World) (v:Value) (size:Int) (l:List Span):Prop:=∃ u,v=.agg #[.int .i64 size,u]∧SlS W u l
theorem HNew (size:Int) (w:World):Calls prog 36 #[.int .i64 size] w (aN (.tuple #[.agg #[.int .i64 (if size<0 then 0 else size),.slice none 0 0],.int .i64 (if size<0 then 1 else 0)]) w):=by
 by_cases h:size<0
 · rw [if_pos h,if_pos h];go_in;refine sg ?_;intros
   all_goals
    (apply bodyPost_ret;(simp only [results,results36];go_simp;exact rfl);rfl)
    exact ⟨rfl,bel⟩
 · rw [if_neg h,if_neg h];go_in;refine sg ?_;intros
   all_goals
    (apply bodyPost_ret;(simp only [results,results36];go_simp;exact rfl);rfl)
    exact ⟨rfl,bel⟩
theorem qWu (x:Span) (b:Nat) (who:Int) (W:World) (h:W.cell? ⟨b,0,none⟩=some (.int .i64 who)) (hb:b<W.heap.size):Calls prog 192 #[.agg x.cells,.pointer (some ⟨b,0,none⟩)] W (aN (.bool (x.who==who)) W):=by
 have h0:x.cells[2]? =some (.int .i64 x.who):=rfl;generalize x.cells=xc at *;go_in;repeat' (first|go_values|go_skip|go_guarded|refine wg ?_|go_step|go_upon|go_quiet (fail))
 go_ret;exact cE rfl bel
theorem qOt:Enters prog 192:=enters_of func192 (by kernel_rfl) rfl
theorem qQo (v:Value) (l:List Span) (who:Int) (b:Nat) (w:World) (h:SlS w v l) (hn:l.length≤34359738368) (hc:w.cell? ⟨b,0,none⟩=some (.int .i64 who)) (hb:b<w.heap.size):
 Calls prog 191 #[v,.func (.func 192) #[] #[.pointer (some ⟨b,0,none⟩)]] w (fun e w'=> ∃ v',e=.returned v'∧OwnS w.heap.size w' v' (gX l who)∧Below w.heap.size w w'):=by
 have HC:=hU (xB v l w h (by omega));obtain ⟨a,c,rfl,_,_⟩:=h.shape;clear h;go_in;refine sg ?_;intros;refine HC.out.mono ?_;rintro e w1 ⟨v1,rfl,hown,hb1⟩;have hz1:=hb1.size
 have HD:=hU (qSg v1 l (fun p=> p.who==who) 192 (.pointer (some ⟨b,0,none⟩)) w.heap.size w1 hown hz1 qOt
  (fun x W hb'=> qWu x b who W ((hb'.cell (p:=⟨b,0,none⟩) hb).trans ((hb1.cell (p:=⟨b,0,none⟩) hb).trans hc)) (Nat.lt_of_lt_of_le hb (Nat.le_trans hz1 hb'.size))))
 have HB1:=hU hb1;obtain ⟨a1,c1,rfl,_,_⟩:=(hown.sl lP).shape;clear hown hb1 hc;dsimp only;repeat' (first|(go_at_call 224;refine HD.out.mono ?_;rintro e w2 ⟨v2,rfl,hown2,hb2⟩;dsimp only)|go_values|go_skip|go_guarded|refine wg ?_|go_step|go_upon)
 go_ret;exact ⟨_,rfl,hown2,HB1.out.trans hb2⟩
theorem qYk (u:Value) (size:Int) (l:List Span) (who:Int) (w:World) (h:SlS w u l) (hn:l.length≤34359738368):
 Calls prog 138 #[.agg #[.int .i64 size,u],.int .i64 who] w (fun e w'=> ∃ u',e=.returned (.agg #[.int .i64 size,u'])∧SlS w' u' (gX l who)∧Below w.heap.size w w'):=by
 obtain ⟨a,c,rfl,_,_⟩:=h.shape;have HB0:Hid (Below w.heap.size w (((w.alloc (.cells #[.int .i64 size,.slice a l.length c] 34)).alloc (.cells #[.int .i64 who] 3)).alloc (.cells #[.int .i64 0,.slice none 0 0] 34))):=hU bel;obtain ⟨q0,q1,q2⟩:=gG w w.heap.size (.cells #[.int .i64 size,.slice a l.length c] 34) (.cells #[.int .i64 who] 3) (.cells #[.int .i64 0,.slice none 0 0] 34) rfl;have HC:=hU (qQo _ l who (w.heap.size + 1) _ (h.below HB0.out) hn (aC (q1) 0) (by simp));clear h;go_in;refine sg ?_;intros;refine HC.out.mono ?_;rintro e w1 ⟨v1,rfl,hown,hb1⟩;have hz1:=hb1.size;simp at hz1;have HT1:=hU ((hb1.block w.heap.size (by simp;omega)).trans q0);have HR1:=hU ((hb1.block (w.heap.size + 1 + 1) (by simp)).trans q2);have HB1:=hU (Below.to HB0.out hb1);obtain ⟨a1,c1,rfl,_,_⟩:=(hown.sl lP).shape;have HO:=hU (hown.sl lP);generalize (gX l who).length=n1 at *;clear hown hb1 q0 q1 q2 HC HB0;dsimp only
 repeat' (first
  |(refine aK (v:=.slice a1 n1 c1) (off:=1) (new:=#[.int .i64 size,.slice a1 n1 c1]) rfl rfl rfl rfl qAv.size HT1.out rfl (by simp) (by intro u hu;simp [Value.cells] at hu;subst hu;rfl) rfl ?_;intro W2 hp2;(have HT2:=hU hp2.at_);(have HR2:=hU ((hp2.oth (w.heap.size + 1 + 1) (by omega)).trans HR1.out));(have HO2:=hU (Sl.put HO.out HT1.out hp2 (by decide)));(have HB2:=hU (Below.put HB1.out hp2 (Nat.le_refl _)));clear hp2)
  |(refine aE rfl rfl rfl (aD iC HT2.out rfl) ?_)
  |(refine aK (v:=.agg #[.int .i64 size,.slice a1 n1 c1]) (off:=0) (new:=#[.int .i64 size,.slice a1 n1 c1]) rfl rfl rfl rfl iC.size HR2.out rfl (by simp) (by intro u hu;simp [Value.cells] at hu;rcases hu with rfl|rfl <;> rfl) rfl ?_;intro W3 hp3;(have HR3:=hU hp3.at_);(have HO3:=hU (Sl.put HO2.out HR2.out hp3 (by decide)));(have HB3:=hU (Below.put HB2.out hp3 (by omega)));clear hp3)
  |go_values|go_skip|go_guarded|refine wg ?_|go_step|go_upon)
 (try simp only [Exit.inBlock,Exit.then]);refine bodyPost_ret (cJ results138 iC rfl HR3.out rfl) rfl ?_
 exact ⟨_,rfl,HO3.out,HB3.out⟩
end Kn
attribute [local go_sem] Oper.semAt_some
namespace KR
theorem jK {P:Program} {w:World} {o:Oper} {a:Act} {K:Act→World→Prop} {Q:Exit→Act→World→Prop} (s x:Operand) (t u:TypeId) (hop:o.op=Op.call {callee:=Callee.builtin Builtin.append,args:=#[s,x],argTypes:=#[t,u]})
 (sv xv:Value) (hs:a.eval s=sv) (hx:a.eval x=xv) (v':Value) (w':World) (hrun:(Builtin.append_ #[t,u] o.type #[sv,xv]).run P w=.ok v' w') (hK:K (a.put o.dst v') w'):o.wp P a w K Q:=by
 unfold Oper.wp;simp [execOp,hop,resolve,invoke,builtin,hs,hx,hrun,Result.andThen];exact hK
end KR
namespace Kn
def qJ:List Span→Int→List Span
 |[],_=> []
 |s::r,a=> (if a<s.at_ then [⟨a,s.at_ - a,0⟩] else []) ++ qJ r (s.at_ + s.n)
def mW (size:Int) (l:List Span):List Span:=qJ (l ++ [(⟨size,0,0⟩:Span)]) 0
theorem qMj {size:Int} {l:List Span} (h:eO size l=true):0≤size:=by
 unfold eO at h;simp at h;exact h.2
theorem qBc {size:Int} {l:List Span} (h:eO size l=true):aV size l 0=true:=by
 unfold eO at h;simp at h;exact h.1
theorem qBb {size t:Int} {s:Span} {r:List Span} (h:aV size (s::r) t=true):t≤s.at_∧1≤s.n∧s.n≤size∧s.at_≤size - s.n∧aV size r (s.at_ + s.n)=true:=by
 unfold aV at h;simp at h;obtain ⟨⟨⟨⟨h1,h2⟩,h3⟩,h4⟩,h5⟩:=h;exact ⟨h1,by omega,h3,h4,h5⟩
theorem qOz {size t:Int} {l:List Span} {k:Nat} {x:Span} (hx:(l ++ [(⟨size,0,0⟩:Span)])[k]? =some x) (hr:aV size (l.drop k) t=true) (ht0:0≤t) (ht:t≤size):
 t≤x.at_∧0≤x.n∧x.n≤size∧x.at_≤size∧x.at_ + x.n≤size∧aV size (l.drop (k + 1)) (x.at_ + x.n)=true∧
  qJ ((l ++ [(⟨size,0,0⟩:Span)]).drop k) t=(if t<x.at_ then [⟨t,x.at_ - t,0⟩] else []) ++ qJ ((l ++ [(⟨size,0,0⟩:Span)]).drop (k + 1)) (x.at_ + x.n):=by
 have hd:=(cD hx).2;have hg:qJ ((l ++ [(⟨size,0,0⟩:Span)]).drop k) t=(if t<x.at_ then [⟨t,x.at_ - t,0⟩] else []) ++ qJ ((l ++ [(⟨size,0,0⟩:Span)]).drop (k + 1)) (x.at_ + x.n):=by rw [hd,qJ]
 by_cases hk:k<l.length
 · rw [List.getElem?_append_left hk] at hx;rw [(cD hx).2] at hr;obtain ⟨h1,h2,h3,h4,h5⟩:=qBb hr;exact ⟨h1,by omega,h3,by omega,by omega,h5,hg⟩
 · have hkl:=(List.getElem?_eq_some_iff.1 hx).1;rw [List.length_append,List.length_singleton] at hkl;obtain rfl:k=l.length:=by omega
   rw [List.getElem?_append_right (Nat.le_refl _),Nat.sub_self] at hx;injection hx with hx
   subst hx;exact ⟨ht,Int.le_refl _,by dsimp only;have:=hkl;omega,Int.le_refl _,by simp,by rw [List.drop_eq_nil_of_le (by omega)];rfl,hg⟩
theorem qFp (a:Option Addr) (n c:Nat) (w:World) (h:n≤c):Calls prog 163 #[.slice a n c] w (Is (.slice a n n) w):=by
 go_in;refine sg ?_;intros;go_ret;exact ⟨rfl,rfl⟩
theorem qLv (y n:Nat) (Bh:Nat) (K:Nat→Prop) (u:Value) (size:Int) (l:List Span) (J Jx:List Span→World→Prop) (W:World)
 (hY:∀ pre x W1,J pre W1→pre.length<l.length + 1→YieldAt Fence.wide (n - 1) prog y #[.agg x.cells] W1 fun e W'=> (e=.returned (.bool true)∧J (pre ++ [x]) W'∧dV K W1 W')∨(e=.returned (.bool false)∧Jx (pre ++ [x]) W'))
 (hJ:AbidesFrom W.heap.size J) (hch:W.heap[Bh]? =some (.cells #[.int .i64 size,u] 34 (0,0))) (hS:SlS W u l) (hKn:∀ k,W.heap.size≤k→K k) (hr:eO size l=true) (hs:size≤9223372036854775807) (hn:l.length≤1000000) (h0:J [] W):
 CallsIn Fence.wide n prog 162 #[.func (.yield y) #[] #[],.pointer (some ⟨Bh,0,none⟩)] W fun e W'=> (∃ v,e=.returned v)∧
  ((∃ ys,ys=mW size l∧J ys W')∨(∃ pre,pre <+:mW size l∧Jx pre W')):=by
 obtain ⟨a,c,rfl,hnc,hcm⟩:=hS.shape;have k0:W.cell? ⟨Bh,0,none⟩=some (.int .i64 size):=aC hch 0;have k1:W.cell? ⟨Bh,1,none⟩=some (.slice a l.length c):=aC hch 1;have hBh:=hlt hch;have HS:=hU hS;have HCH:=hU hch;obtain ⟨N,hN⟩:∃ N,l.length=N:=⟨_,rfl⟩
 have HNN:=hU hN;obtain ⟨v',W',hrun,hown,hb⟩:=jQ (P:=prog) (bytes:=24) (t:=32) (ty:=32) lP (by decide) underlying32 (by kernel_rfl) qAx (w:=W.drew.alloc (.cells #[.int .i64 size,.int .i64 0,.int .i64 0] 208)) (a:=a) (n:=l.length) (c:=1) (l:=l) ((HS.out.clip.drew).alloc _) (x:=⟨size,0,0⟩) (xb:=W.heap.size) (fZ W.drew _) (by unfold maxLen;omega) (by omega);have HRUN:=hU hrun;have HO:=hU (hown.sl lP);have HOW:=hU hown;have HB1:=hU (Below.to (Below.drew (Below.refl W.heap.size W)) (Below.to ((Below.refl W.drew.heap.size W.drew).alloc (Nat.le_refl _) _) hb));obtain ⟨a',c',hv',hsa,hsb⟩:=(hown.sl lP).shape;have hlen:(l ++ [(⟨size,0,0⟩:Span)]).length=N + 1:=by simp [hN]
 rw [hlen] at hv';rw [hN] at k1 hnc HRUN hn hY;subst hv';have HLEN:=hU hlen;clear hrun hown hb hS hch hN hlen hsa hsb;refine callsIn_of_wp func162 rfl trivial ?_ rfl;refine wpIn_wide.2 ?_;simp only [ntmps162,List.size_toArray,List.length_cons,List.length_nil,Nat.reduceAdd,Nat.reduceSub,Array.replicate_succ,Array.replicate_zero,List.push_toArray,List.append_toArray,List.nil_append,List.cons_append];refine sg ?_;intros;refine RegTail.jD (st:=[]) (S:=fun W=> W.cell? ⟨Bh,0,none⟩=some (.int .i64 size)∧W.cell? ⟨Bh,1,none⟩=some (.slice a N c)) (by kernel_rfl) ?_;have hS:(fun W:World=> W.cell? ⟨Bh,0,none⟩=some (.int .i64 size)∧W.cell? ⟨Bh,1,none⟩=some (.slice a N c)) W.drew:=⟨k0,k1⟩
 (refine RegTail.tl 0 ?_);(try simp only [RegT3.aF])
 (refine RegTail.tl 1 ?_);(try simp only [RegT3.aF])
 (refine RegTail.tl 3 ?_);(try simp only [RegT3.aF])
 (refine RegTail.tl 4 ?_);(try simp only [RegT3.aF])
 (refine RegTail.tl 5 ?_);(try simp only [RegT3.aF])
 (refine RegTail.tl 9 ?_);(try simp only [RegT3.aF])
 refine RegTail.oT (i:=2) (j:=6) (by kernel_rfl) rfl rfl (fun K hK=> ?_) (fun K hK=> ?_);refine RegTail.want rfl ?_;go_simp;refine (qFp _ _ _ _ hnc).mono ?_;rintro e w3 ⟨rfl,rfl⟩;dsimp only;refine hK.out _ _ (fun _=> ⟨k0,k1⟩) ?_;clear hK K;(refine RegTail.ro 6 fun K hK=> ?_)
 go_simp;refine hK.out _ _ (fun _=> ⟨(World.cell?_of_block (w:=W) (Lib.alloc_old W _ Bh hBh)).trans k0,(World.cell?_of_block (w:=W) (Lib.alloc_old W _ Bh hBh)).trans k1⟩) ?_;clear hK K;rotate_left
 go_simp;refine hK.out _ _ (fun _=> ⟨(World.cell?_of_block (w:=W) (Lib.alloc_old W _ Bh hBh)).trans k0,(World.cell?_of_block (w:=W) (Lib.alloc_old W _ Bh hBh)).trans k1⟩) ?_;clear hK K;(refine RegTail.ro 2 fun K hK=> ?_)
 refine RegTail.want rfl ?_;go_simp;refine (qFp _ _ _ _ hnc).mono ?_;rintro e w3 ⟨rfl,rfl⟩;dsimp only;refine hK.out _ _ (fun _=> ⟨(World.cell?_of_block (w:=W) (Lib.alloc_old W _ Bh hBh)).trans k0,(World.cell?_of_block (w:=W) (Lib.alloc_old W _ Bh hBh)).trans k1⟩) ?_;clear hK K
 all_goals
  (refine RegTail.ro 7 fun K hK=> ?_)
  refine RegTail.want rfl ?_;refine jK _ _ _ _ rfl _ _ rfl rfl _ _ HRUN.out ?_;refine hK.out _ _ (fun _=> ⟨aC ((HB1.out.block Bh hBh).trans HCH.out) 0,by rw [← HNN.out];exact aC ((HB1.out.block Bh hBh).trans HCH.out) 1⟩) ?_;clear hK K;(try simp only [Act.put,List.getElem_toArray,List.getElem_cons_zero,List.getElem_cons_succ,List.setIfInBounds_toArray,List.set_cons_zero,List.set_cons_succ])
  (refine RegTail.ro 8 fun K hK=> ?_)
  go_simp;refine hK.out _ _ (fun _=> ⟨aC ((HB1.out.block Bh hBh).trans HCH.out) 0,by rw [← HNN.out];exact aC ((HB1.out.block Bh hBh).trans HCH.out) 1⟩) ?_;clear hK K;refine RegTail.aZ (by kernel_rfl) ?_ _;refine sg ?_;intros;refine (wpIn_wide (n:=n)).1 ?_;gi_loopw [3,15] (fun av iv wr=> ∃ (k:Nat) (t:Int) (pre:List Span),k≤N + 1∧iv=.int .i64 k∧av=.int .i64 t∧J pre wr∧dV K W' wr∧0≤t∧t≤size∧pre.length≤k∧aV size (l.drop k) t=true∧pre ++ qJ ((l ++ [(⟨size,0,0⟩:Span)]).drop k) t=mW size l) (fun _ iv _=> N + 1 - (intOf iv).toNat)
  case atStart=> exact ⟨0,0,[],Nat.zero_le _,rfl,rfl,iQ hJ h0 HB1.out,dV.refl _ _,Int.le_refl _,qMj hr,Nat.le_refl _,qBc hr,rfl⟩
  case round=>
   obtain ⟨k,t,pre,hk,rfl,rfl,hJs,hKw,ht0,ht1,hpl,hrf,hgap⟩:=hrel
   have HSr:Hid (SlS wr (.slice a' (N + 1) c') (l ++ [(⟨size,0,0⟩:Span)])):=hU (by
    have h2:KR.Own 208 3 Span.cells (W.drew.alloc (.cells #[.int .i64 size,.int .i64 0,.int .i64 0] 208)).heap.size wr (.slice a' (N + 1) c') (l ++ [(⟨size,0,0⟩:Span)]):=by
     obtain ⟨e0,e|⟨g,cap,cur,hv,hB,hg,e4⟩⟩:=HOW.out
     · exact ⟨e0,.inl e⟩
     · exact ⟨e0,.inr ⟨g,cap,cur,hv,hB,hKw.2 g cur _ (hKn g (by simp at hB;omega)) hg,e4⟩⟩
    exact KR.Own.sl lP h2)
   have HKW:=hU hKw;clear hKw;by_cases hlt':k<N + 1
   · obtain ⟨x,hx⟩:∃ x,(l ++ [(⟨size,0,0⟩:Span)])[k]? =some x:=⟨_,List.getElem?_eq_getElem (by rw [HLEN.out];exact hlt')⟩
     obtain ⟨g1,g2,g3,g4,g5,g6,g7⟩:=qOz hx hrf ht0 ht1;obtain ⟨hnl,hnc2,hcm2,hel⟩:=HSr.out.elem;clear hnl;obtain ⟨b,off,rfl,hbl,hcell'⟩:=hel k x hx;have hc:=hcell' wr (Below.refl _ _);have q0:wr.cell? ⟨b,off + k * 3,none⟩=some (.int .i64 x.at_):=hc 0 _ rfl;have q1:wr.cell? ⟨b,off + k * 3 + 1,none⟩=some (.int .i64 x.n):=hc 1 _ rfl;have q2:wr.cell? ⟨b,off + k * 3 + 2,none⟩=some (.int .i64 x.who):=hc 2 _ rfl;have hw1:IntKind.i64.wrap (x.at_ - t)=x.at_ - t:=by rw [IntKind.wrap_i64];omega
     have hw2:IntKind.i64.wrap (x.at_ + x.n)=x.at_ + x.n:=by rw [IntKind.wrap_i64];omega
     have hgp:=hgap;rw [g7] at hgp;have hb2:Below wr.heap.size wr (wr.alloc (.cells #[.int .i64 x.at_,.int .i64 x.n,.int .i64 x.who] 208)):=(Below.refl _ _).alloc (Nat.le_refl _) _;have HJ2:=hU (iQ hJ hJs hb2);clear hcell' hel hc;by_cases ht:t<x.at_
     · rw [if_pos ht] at hgp;obtain ⟨fn,tmps,assign,body,hy,hR⟩:=hY pre ⟨t,x.at_ - t,0⟩ _ HJ2.out (by omega);simp only [Span.cells] at hy;gi_wp2
       refine ⟨fun h=> by simp [Fence.wide] at h,hR.mono ?_⟩;rintro e W3 (⟨rfl,hJ3,hk3⟩|⟨rfl,hJx3⟩)
       · have hxb:=hk3.2 wr.heap.size _ _ (hKn _ (by have:=HKW.out.1;have:=HB1.out.size;omega)) (fZ wr _);have r0:W3.cell? ⟨wr.heap.size,0,none⟩=some (.int .i64 x.at_):=aC hxb 0;have r1:W3.cell? ⟨wr.heap.size,1,none⟩=some (.int .i64 x.n):=aC hxb 1;have HJ3:=hU hJ3;have HK3:=hU (iR HKW.out (iR (dV.gI hb2) hk3));clear hJ3 hk3 hy hxb;gi_wp2
         go_roundw
         case rel=> exact ⟨k + 1,x.at_ + x.n,pre ++ [⟨t,x.at_ - t,0⟩],by omega,by go_num,by go_num,HJ3.out,HK3.out,by omega,g5,by simp;omega,g6,by rw [← hgp,List.append_assoc]⟩
         case measure=> simp [intOf];omega
       · gi_wp2
         refine bodyPost_ret (results_none rfl _ _ _) rfl ?_;exact ⟨⟨_,rfl⟩,.inr ⟨pre ++ [⟨t,x.at_ - t,0⟩],⟨_,by rw [← hgp,List.append_assoc]⟩,hJx3⟩⟩
     · rw [if_neg ht] at hgp;gi_wp2
       refine ⟨fun _ h=> (by cases h),?_⟩;gi_wp2
       go_roundw
       case rel=> exact ⟨k + 1,x.at_ + x.n,pre,by omega,by go_num,by go_num,HJ2.out,iR HKW.out (dV.gI hb2),by omega,g5,by omega,g6,hgp⟩
       case measure=> simp [intOf];omega
   · obtain rfl:k=N + 1:=by omega
     rw [List.drop_eq_nil_of_le (by rw [HLEN.out];omega),qJ,List.append_nil] at hgap;gi_wp2
     go_end0
     exact ⟨⟨_,rfl⟩,.inl (hgap ▸ hJs)⟩
theorem qPa (n:Nat) (size:Int) (a:Option Addr) (m c:Nat) (w:World):
 CallsIn Fence.wide n prog 113 #[.agg #[.int .i64 size,.slice a m c]] w fun e w'=> e=.returned (.func (.func 162) #[] #[.pointer (some ⟨w.heap.size,0,none⟩)])∧w'=w.alloc (.cells #[.int .i64 size,.slice a m c] 34):=by
 refine callsIn_of_wp func113 rfl trivial ?_ rfl;simp only [ntmps113,List.size_toArray,List.length_cons,List.length_nil,Nat.reduceAdd,Nat.reduceSub,Array.replicate_succ,Array.replicate_zero,List.push_toArray,List.append_toArray,List.nil_append,List.cons_append];gi_wp2
 go_ret;exact ⟨rfl,rfl⟩
theorem qGb (n:Nat) (K:Nat→Prop) (u:Value) (size:Int) (l:List Span) (Bh:Nat) (w:World) (hl:w.heap[Bh]? =some (.cells #[.int .i64 size,u] 34 (0,0))) (hS:SlS w u l) (hKn:∀ k,w.heap.size≤k→K k) (hr:eO size l=true) (hs:size≤9223372036854775807) (hn:l.length≤1000000):
 SeqStopsK Fence.wide n prog 162 #[.pointer (some ⟨Bh,0,none⟩)] (fun x:Span=> #[.agg x.cells]) (dV K) (fun ys=> ys=mW size l) (fun pre=> pre <+:mW size l) (l.length + 1) w:=fun y J Jx W hW hJ hJx hY h0=>
 qLv y n Bh K u size l J Jx W hY hJ ((hW.block Bh (hlt hl)).trans hl) (hS.below hW) (fun k hk=> hKn k (Nat.le_trans hW.size hk)) hr hs hn h0
