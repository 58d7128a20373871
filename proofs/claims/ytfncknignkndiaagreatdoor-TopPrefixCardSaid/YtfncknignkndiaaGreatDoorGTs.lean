/- ded.Due: the messages that are due, and the others. Conditions: as told. -/
import Derived.Laws.StructEq
import Derived.Test.YtfncknignkndiaaGreatDoorGHr
import Derived.Test.YtfncknignkndiaaGreatDoorHyBeg
import Derived.Test.YtfncknignkndiaaGreatDoorGCard
set_option linter.unusedVariables false
set_option maxRecDepth 100000
set_option maxHeartbeats 8000000
set_option linter.unusedSimpArgs false
namespace Go.Proofs.YtfncknignkndiaaGreatDoor
open Go.Proofs.Tryz
open Go.RowKit KR RegT3
namespace Kn
theorem Rd.take {α:Type} {sz:Nat} {f:α→Array Value} {W:World} {a:Option Addr} {n c:Nat} {l:List α} (h:Rd sz f W (.slice a n c) l) (k c':Nat) (hk:k≤n) (h1:k≤c') (h2:c'≤9223372036854775807):Rd sz f W (.slice a k c') (l.take k):=by
 obtain ⟨a0,c0,he,_,_,h⟩:=h;injection he with ha0 hn hc
 subst ha0 hn hc;refine ⟨_,_,by rw [List.length_take,Nat.min_eq_left hk],by rw [List.length_take];omega,h2,?_⟩;rcases h with rfl|⟨b,off,rfl,hb,aC⟩
 · exact .inl (by simp)
 · refine .inr ⟨b,off,rfl,hb,fun i x hx j u hj=> ?_⟩;rw [List.getElem?_take] at hx;split at hx
   · exact aC _ x hx j u hj
   · cases hx
theorem Rd.drop {α:Type} {sz:Nat} {f:α→Array Value} {W:World} {a a':Option Addr} {n c:Nat} {l:List α} (h:Rd sz f W (.slice a n c) l) (k:Nat) (hk:k≤n) (ha:∀ b off,a=some ⟨b,off,none⟩→a'=(if c=k then some ⟨b,off,none⟩ else some ⟨b,off + k * sz,none⟩)):Rd sz f W (.slice a' (n - k) (c - k)) (l.drop k):=by
 obtain ⟨a0,c0,he,h1,h2,h⟩:=h;injection he with ha0 hn hc
 subst ha0 hn hc;refine ⟨_,_,by rw [List.length_drop],by rw [List.length_drop];omega,by omega,?_⟩;by_cases hkn:k=l.length
 · exact .inl (by rw [hkn,List.drop_length])
 · rcases h with rfl|⟨b,off,rfl,hb,aC⟩
   · exact .inl (by simp)
   · refine .inr ⟨b,off + k * sz,by rw [ha b off rfl,if_neg (by omega)],hb,fun i x hx j u hj=> ?_⟩;rw [List.getElem?_drop] at hx;have:=aC _ x hx j u hj
     rw [Nat.add_mul] at this;rwa [Nat.add_assoc off]
theorem Rd.empty {α:Type} {sz:Nat} {f:α→Array Value} {W:World} {a:Option Addr} {c:Nat} (h:c≤9223372036854775807):Rd sz f W (.slice a 0 c) []:=⟨a,c,rfl,Nat.zero_le _,h,.inl rfl⟩
theorem aggEvT:Agg prog 127 4:=gD underlying127 rfl (by kernel_rfl)
def evEq (x y:Ev):Bool:=x.pid==y.pid && x.n==y.n && x.r==y.r && x.at_==y.at_
theorem evEq_iff (x y:Ev):evEq x y=true↔x=y:=by
 obtain ⟨a,b,c,d⟩:=x;obtain ⟨a',b',c',d'⟩:=y;simp [evEq,and_assoc]
theorem neqEv2 (x y:Ev) (W:World):(binOp .neq 127 (.agg (Ev.cells x)) (.agg (Ev.cells y))).run prog W=.ok (.bool (!evEq x y)) W:=by
 unfold Ev.cells evEq;go_simp;by_cases h1:x.pid=y.pid <;> by_cases h2:x.n=y.n <;> by_cases h3:x.r=y.r <;> by_cases h4:x.at_=y.at_ <;> simp [h1,h2,h3,h4]
def evsEq:List Ev→List Ev→Bool
 |[],[]=> true
 |x::l,y::m=> evEq x y && evsEq l m
 |_,_=> false
theorem evsEq_iff:∀ l m:List Ev,evsEq l m=true↔l=m
 |[],[]=> by simp [evsEq]
 |[],_::_=> by simp [evsEq]
 |_::_,[]=> by simp [evsEq]
 |x::l,y::m=> by simp [evsEq,evEq_iff,evsEq_iff l m]
theorem evsEq_len {l m:List Ev} (h:l.length ≠ m.length):evsEq l m=false:=by
 cases hh:evsEq l m with
 |false=> rfl
 |true=> exact absurd (congrArg List.length ((evsEq_iff l m).1 hh)) h
theorem evsEq_drop {l m:List Ev} {k:Nat} {x y:Ev} (h:l.take k=m.take k) (hx:l[k]? =some x) (hy:m[k]? =some y) (hne:evEq x y=false):evsEq l m=false:=by
 cases hh:evsEq l m with
 |false=> rfl
 |true=>
  rw [(evsEq_iff l m).1 hh,hy] at hx;injection hx with hx
  subst hx;exact ((evEq_iff y y).2 rfl).symm.trans hne
theorem take_more {l m:List Ev} {k:Nat} {x y:Ev} (h:l.take k=m.take k) (hx:l[k]? =some x) (hy:m[k]? =some y) (he:evEq x y=true):l.take (k + 1)=m.take (k + 1):=by
 rw [List.take_add_one,List.take_add_one,h,hx,hy,(evEq_iff x y).1 he]
def SameRF (w:World) (l m:List Ev) (iv:Value) (wr:World):Prop:=∃ k:Nat,k≤l.length∧iv=.int .i64 k∧Hid (l.take k=m.take k)∧Below w.heap.size w wr
theorem EqEvF (u v:Value) (l m:List Ev) (w:World) (h1:Rd 4 Ev.cells w u l) (h2:Rd 4 Ev.cells w v m):Calls prog 103 #[u,v] w (aN (.bool (evsEq l m)) w):=by
 obtain ⟨a1,c1,rfl,hm1,hm2⟩:=h1.shape;obtain ⟨a2,c2,rfl,_,_⟩:=h2.shape;have H1:=hU h1.elem.2.2.2;have H2:=hU h2.elem.2.2.2;clear h1 h2;by_cases hlen:l.length=m.length
 · have hln:((l.length:Int)==(m.length:Int))=true:=by simp [hlen]
   have HLEN:=hU hlen;have hml:(m.length:Int)=(l.length:Int):=by omega
   rw [← hlen];clear hlen hln hml;go_in;refine sg ?_;intros;go_loopw [13] (fun iv wr=> SameRF w l m iv wr) (fun iv _=> l.length - (intOf iv).toNat)
   case atStart=> exact ⟨0,Nat.zero_le _,rfl,hU (by rw [List.take_zero,List.take_zero]),Below.refl _ _⟩
   case round=>
    obtain ⟨k,hk,rfl,htk,hb⟩:=hrel;by_cases hkl:k<l.length
    · obtain ⟨x,hx⟩:∃ x,l[k]? =some x:=⟨_,List.getElem?_eq_getElem hkl⟩
      obtain ⟨y,hy⟩:∃ y,m[k]? =some y:=⟨_,List.getElem?_eq_getElem (by have:=HLEN.out;omega)⟩
      obtain ⟨g1,o1,rfl,_,hc1⟩:=H1.out k x hx;obtain ⟨g2,o2,rfl,_,hc2⟩:=H2.out k y hy;have HC1:=hU hc1;have HC2:=hU hc2;have HB:=hU hb;have HX:=hU hx;have HY:=hU hy;have hj1:(k:Int)<(l.length:Int):=by omega
      have hj0:(0:Int)≤(k:Int):=by omega
      clear hc1 hc2 hb hx hy H1 H2;have hq:=neqEv2 x y;refine sg ?_;intros;refine wp_region_noPanic ?_;refine go0 (S:=fun W=> (∀ j u,(Ev.cells x)[j]? =some u→W.cell? ⟨g1,o1 + k * 4 + j,none⟩=some u)∧(∀ j u,(Ev.cells y)[j]? =some u→W.cell? ⟨g2,o2 + k * 4 + j,none⟩=some u)) [] (⟨HC1.out _ HB.out.drew,HC2.out _ HB.out.drew⟩) fun hS=> ?_;refine tp 0 ?_;(try simp only [aF])
      refine tp 1 ?_;(try simp only [aF])
      refine tp 2 ?_;(try simp only [aF])
      refine tv 3 (.agg (Ev.cells x)) (fun W hSW=> aR rfl rfl (cA aggEvT rfl hSW.1)) ?_;(try simp only [aF])
      refine tp 4 ?_;(try simp only [aF])
      refine tp 5 ?_;(try simp only [aF])
      refine tp 6 ?_;(try simp only [aF])
      refine tv 7 (.agg (Ev.cells y)) (fun W hSW=> aR rfl rfl (cA aggEvT rfl hSW.2)) ?_;(try simp only [aF])
      refine tp 8 ?_;(try simp only [aF])
      refine aZ (by kernel_rfl) (NoPanic.normal ?_) _;clear hS;cases he:evEq x y
      · refine sg ?_;intros;go_ret;exact cF (by simp [evsEq_drop htk.out HX.out HY.out he]) HB.out.drew
      · refine sg ?_;intros;exact ⟨⟨k + 1,by omega,by go_num,hU (take_more htk.out HX.out HY.out he),HB.out.drew⟩,by simp [intOf];omega⟩
    · have HB:=hU hb;have hkk:k=l.length:=by omega
      have hs:evsEq l m=true:=(evsEq_iff l m).2 (by
       have h:=htk.out;rw [hkk,List.take_length,HLEN.out,List.take_length] at h;exact h)
      have HSQ:=hU hs;clear hb hs hkk;refine sg ?_;intros;go_ret;exact cF (by simp [HSQ.out]) HB.out
 · have hln:((l.length:Int)==(m.length:Int))=false:=by simp;omega
   have hs:=evsEq_len hlen;have HSQ:=hU hs;clear hlen hs;go_in;refine sg ?_;intros;go_ret;exact cF (by simp [HSQ.out]) (Below.refl _ _)
def evBeg (l m:List Ev):Bool:=decide (l.length≤m.length) && evsEq l (m.take l.length)
theorem evBeg_iff (l m:List Ev):evBeg l m=true↔∃ r,m=l ++ r:=by
 unfold evBeg;rw [Bool.and_eq_true,decide_eq_true_eq,evsEq_iff];constructor
 · rintro ⟨_,h⟩;exact ⟨m.drop l.length,by conv=> lhs;rw [← List.take_append_drop l.length m,← h]⟩
 · rintro ⟨r,rfl⟩;exact ⟨by rw [List.length_append];omega,List.take_left.symm⟩
theorem SBegins1 (u v:Value) (l m:List Ev) (w:World) (h1:Rd 4 Ev.cells w u l) (h2:Rd 4 Ev.cells w v m):Calls prog 47 #[u,v] w (aN (.bool (evBeg l m)) w):=by
 obtain ⟨a1,c1,rfl,_,_⟩:=h1.shape;obtain ⟨a2,c2,rfl,hc,hm⟩:=h2.shape;have h3:decide ((l.length:Int)≤(m.length:Int))=decide (l.length≤m.length):=by simp
 by_cases hle:l.length≤m.length
 · have hle2:l.length≤c2:=by omega
   have hb:evBeg l m=evsEq l (m.take l.length):=by unfold evBeg;rw [decide_eq_true hle,Bool.true_and]
   have e4:=EqEvF _ _ l (m.take l.length) w h1 (Rd.take h2 l.length c2 hle (by omega) hm);rw [decide_eq_true hle] at h3;have HST:=hU e4;rw [hb];clear e4 h1 h2 hb;go_in;refine sg ?_;intros;refine HST.out.mono ?_;rintro er Wn ⟨rfl,hb⟩;have HB:=hU hb;clear hb;dsimp only;refine sg ?_;intros;go_ret;exact cF rfl HB.out
 · have hb:evBeg l m=false:=by unfold evBeg;rw [decide_eq_false hle,Bool.false_and]
   rw [decide_eq_false hle] at h3;rw [hb];clear h1 h2 hb;go_in;refine sg ?_;intros;go_ret;exact cF rfl (Below.refl _ _)
theorem SBegins (u v:Value) (l m:List Ev) (w:World) (h1:Rd 4 Ev.cells w u l) (h2:Rd 4 Ev.cells w v m):Calls prog 19 #[u,v] w (aN (.bool (evBeg l m)) w):=by
 have HST:=hU (SBegins1 u v l m w h1 h2);clear h1 h2;go_in;refine sg ?_;intros;refine HST.out.mono ?_;rintro er Wn ⟨rfl,hb⟩;have HB:=hU hb;clear hb;dsimp only;refine sg ?_;intros;go_ret;exact cF rfl HB.out
end Kn
end Go.Proofs.YtfncknignkndiaaGreatDoor
namespace Go.Proofs.YtfncknignkndiaaGreatDoor
open Go.Proofs.Tryz
open Go.RowKit KR Kn
namespace Hy
theorem uY (mem:Int) (images:List ByteArray) (outs ins:List cS) (now:Int):(eK mem images outs ins now).want=0:=by
 unfold eK;dsimp only;repeat' split
 all_goals first|rfl|exact (pD _ _).2
theorem qR (x:Part) (images:List ByteArray) (outs ins:List cS):(jP x images outs ins).k.want=0:=by
 unfold jP;rw [(qU _ _).2];exact uY _ _ _ _ _
theorem qN {P:Pl.fH} {l:List (List ByteArray)} (hc:Pl.check P=0) (hl:∀ r ∈ l,r.length≤8):dP 0 (gE P l)∧gB (gE P l):=by
 obtain ⟨h1,h2,h3,h4,h5,h6,_⟩:=Pl.cQ hc;have hcs:(fD P).length≤6:=by unfold fD;rw [List.length_map];exact h5
 refine ⟨⟨hc,?_,?_,fun s hs=> ?_,fun a ha=> ?_,?_,Int.le_refl _,?_,Int.le_refl _,Int.le_refl _⟩,fun s hs=> ?_⟩
 · show (List.map _ _).length=_
   rw [List.length_map,List.length_range];rfl
 · exact List.length_replicate
 · obtain ⟨i,_,rfl⟩:=List.mem_map.1 hs;refine xZ (g:=⟨partOf (P.ps.getD i []),l.getD i [],oG (fD P) i,lH (fD P) i⟩) ⟨?_,?_,?_,zZ hc i⟩
   · show (l.getD i []).length≤8
     rw [List.getD_eq_getElem?_getD];cases h:l[i]? with
     |none=> decide
     |some r=> exact hl r (List.mem_of_getElem? h)
   · exact Nat.le_trans (List.length_filter_le _ _) (by omega)
   · exact Nat.le_trans (List.length_filter_le _ _) (by omega)
 · obtain rfl:=List.eq_of_mem_replicate ha;exact Nat.le_refl _
 · show 0<P.ws.length
   omega
 · show (0:Int)<P.ws.length
   omega
 · obtain ⟨i,_,rfl⟩:=List.mem_map.1 hs;rw [qR];decide
def sW (l:List (List ByteArray)):Bool:=l.all (fun r=> decide (r.length≤8)) && decide (l.length≤8)
theorem qOx {l:List (List ByteArray)} (h:sW l=true):∀ r ∈ l,r.length≤8:=by
 unfold sW at h;rw [Bool.and_eq_true,List.all_eq_true] at h;intro r hr;simpa using h.1 r hr
theorem qEa {l:List (List ByteArray)} {i:Nat} {r:List ByteArray} (h:l[i]? =some r) (hr:8<r.length):sW l=false:=by
 unfold sW;rw [Bool.and_eq_false_iff];left
 rw [List.all_eq_false];exact ⟨r,List.mem_of_getElem? h,by simpa using hr⟩
def qGy (n:Int):Int:=if n<0 then 0 else if 600<n then 600 else n
theorem xAf (n:Int):0≤qGy n∧qGy n≤600:=by
 unfold qGy;split
 · omega
 · split <;> omega
theorem qYl (n:Int) (w:World):Calls prog 13 #[.int .i64 n] w (Is (.int .i64 (qGy n)) w):=by
 unfold qGy;by_cases h0:n<0
 · have e0:decide (n<0)=true:=by simp [h0]
   rw [if_pos h0];go_in;refine sg ?_;intros;go_ret;exact ⟨rfl,rfl⟩
 · have e0:decide (n<0)=false:=by simp;omega
   rw [if_neg h0];by_cases h:600<n
   · have e:decide (600<n)=true:=by simp [h]
     rw [if_pos h];go_in;refine sg ?_;intros;go_ret;exact ⟨rfl,rfl⟩
   · have e:decide (600<n)=false:=by simp;omega
     rw [if_neg h];go_in;refine sg ?_;intros;go_ret;exact ⟨rfl,rfl⟩
def FewR (l:List (List ByteArray)) (w:World) (iv:Value) (W:World):Prop:=∃ i:Nat,i≤l.length∧iv=.int .i64 i∧W=w∧∀ k r,k<i→l[k]? =some r→r.length≤8
theorem HFew (v:Value) (l:List (List ByteArray)) (w:World) (h:tP w v l):Calls prog 16 #[v] w (Is (.bool (sW l)) w):=by
 obtain ⟨a,c,rfl,hlc,hmax,hh⟩:=h;have hl63:l.length≤9223372036854775807:=by omega
 have HH:=hU hh;clear hh hlc;go_in;refine sg ?_;intros;go_loopw [3] (fun iv wr=> FewR l w iv wr) (fun iv _=> l.length - (intOf iv).toNat)
 case atStart=> exact ⟨0,Nat.zero_le _,rfl,rfl,fun k r hk=> by omega⟩
 case round=>
  obtain ⟨i,hi,rfl,rfl,hall⟩:=hrel;have HA:=hU hall;clear hall;have i0:(0:Int)≤(i:Int):=by omega
  by_cases hil:i<l.length
  · have e1:decide ((i:Int)<(l.length:Int))=true:=by simp;omega
    have e2:decide (i<l.length)=true:=by simp;omega
    have e3:(i:Int)<(l.length:Int):=by omega
    have e4:IntKind.i64.wrap ((i:Int) + 1)=(i:Int) + 1:=by rw [IntKind.wrap_i64];omega
    obtain ⟨r,hr⟩:∃ r,l[i]? =some r:=⟨_,List.getElem?_eq_getElem hil⟩
    rcases HH.out with rfl|⟨b,off,rfl,hb,hc⟩
    · simp at hil
    · obtain ⟨u,hu,hur⟩:=hc i r hr;obtain ⟨a2,c2,rfl,_,_⟩:=hur.shape;have HR:=hU hr;clear hc hur hr;by_cases h8:8<r.length
      · have e5:decide ((8:Int)<(r.length:Int))=true:=by simp;omega
        have e6:decide (8<r.length)=true:=by simp;omega
        have HF:=hU (qEa HR.out h8);refine sg ?_;intros;go_ret;rw [HF.out];exact ⟨rfl,rfl⟩
      · have e5:decide ((8:Int)<(r.length:Int))=false:=by simp;omega
        have e6:decide (8<r.length)=false:=by simp;omega
        refine sg ?_;intros;refine ⟨⟨i + 1,by omega,by go_num,rfl,fun k r' hk hk2=> ?_⟩,by simp [intOf];omega⟩;by_cases hki:k=i
        · subst hki;rw [HR.out] at hk2;obtain rfl:=Option.some.inj hk2;omega
        · exact HA.out k r' (by omega) hk2
  · have e1:decide ((i:Int)<(l.length:Int))=false:=by simp;omega
    have e2:decide (i<l.length)=false:=by simp;omega
    have hF:sW l=decide ((l.length:Int)≤8):=by
     unfold sW
     have:l.all (fun r=> decide (r.length≤8))=true:=List.all_eq_true.2 fun r hr=> by
      obtain ⟨k,hk⟩:=List.getElem?_of_mem hr;simpa using HA.out k r (by have:=(List.getElem?_eq_some_iff.1 hk).1;omega) hk
     rw [this,Bool.true_and];simp;omega
    have HF:=hU hF;clear hF;refine sg ?_;intros;go_ret;refine ⟨?_,rfl⟩;rw [HF.out];first|rfl|simp
end Hy
end Go.Proofs.YtfncknignkndiaaGreatDoor
namespace Go.Proofs.YtfncknignkndiaaGreatDoor
open Go.Proofs.Tryz
open Go.RowKit KR Kn RegT3
namespace Hy
def exP:Pl.fH:=⟨[[64,1,1,1]],10,[[[0,0,10]]],[]⟩
theorem qFw:Pl.check exP=0:=by kernel_rfl
theorem qHs:(jO 10 (gE exP [])).seats.map (fun s=> s.k.now)=[8]∧(jO 10 (gE exP [])).now=10:=⟨by kernel_rfl,by kernel_rfl⟩
theorem qBs:∀ W,(zeroValue 76).run prog W=.ok (.agg #[.int .i64 0,.int .i64 0,.int .i64 0,.int .i64 0]) W:=iU (by kernel_rfl)
theorem qFb:∀ W,(zeroValue 96).run prog W=.ok (.agg #[.int .i64 0,.int .i64 0,.int .i64 0]) W:=iU (by kernel_rfl)
theorem qBv:∀ W,(zeroValue 97).run prog W=.ok (.slice none 0 0) W:=iU (by kernel_rfl)
theorem qEh:One prog 97:=gU underlying97 rfl (by kernel_rfl)
theorem qDy {W:World} {b:Nat} (h1:W.heap[b]? =some (.cells #[.int .i64 64,.int .i64 1,.int .i64 1,.int .i64 1] 76 (0,0))) (h2:W.heap[b + 1]? =some (.cells #[.int .i64 0,.int .i64 0,.int .i64 10] 96 (0,0)))
 (h3:W.heap[b + 1 + 1]? =some (.cells #[.slice (some ⟨b + 1,0,none⟩) 1 1] 97 (0,0))):iF W (.slice (some ⟨b,0,none⟩) 1 1) (.slice (some ⟨b + 1 + 1,0,none⟩) 1 1) (.slice none 0 0) exP:=by
 refine qEn (qAw (x:=[64,1,1,1]) (f:=uN 4) h1) ⟨_,1,rfl,by decide,.inr ⟨_,0,rfl,hlt h3,fun i hi=> ?_⟩⟩ Rd.nil
 obtain rfl:i=0:=by
  have:i<1:=hi
  omega
 exact ⟨_,aC h3 0,qAb (qAw (x:=[0,0,10]) (f:=uN 3) h2)⟩
theorem qVa (w:World) (hT:Tab w):Calls prog 10 #[] w (aN (.bool true) w):=by
 obtain ⟨b,hzb⟩:∃ b,w.heap.size=b:=⟨_,rfl⟩
 obtain ⟨W1,hW1,hb1,H1⟩:=nb1 (W:=w) (.cells #[.int .i64 64,.int .i64 1,.int .i64 1,.int .i64 1] 76) hzb;have hz1:W1.heap.size=b + 1:=by rw [← hW1,← hzb];simp
 obtain ⟨W2,hW2,hb2,H2⟩:=nb1 (W:=W1) (.cells #[.int .i64 0,.int .i64 0,.int .i64 10] 96) hz1;have hz2:W2.heap.size=b + 1 + 1:=by rw [← hW2];simp [hz1]
 obtain ⟨W3,hW3,hb3,H3⟩:=nb1 (W:=W2) (.cells #[.slice (some ⟨b + 1,0,none⟩) 1 1] 97) hz2;have hB:Below w.heap.size w W3:=(hb1.trans (hb2.mono hb1.size)).trans (hb3.mono (Nat.le_trans hb1.size hb2.size));have hpl:=qDy (nB hb3 (nB hb2 H1)).out (nB hb3 H2).out H3.out;have e4:=qNg (.slice (some ⟨b,0,none⟩) 1 1) (.slice (some ⟨b + 1 + 1,0,none⟩) 1 1) (.slice none 0 0) (.slice none 0 0) exP [] W3 hpl (by decide) ⟨none,0,rfl,Nat.le_refl _,by decide,.inl rfl⟩ (fun r hr=> nomatch hr);have HBE:=hU e4;have HT:=hU (fun W (h:Below w.heap.size w W)=> hT.below h);have HB:=hU hB;clear e4 hpl hB hb1 hb2 hb3 H1 H2 H3 hT;go_in
 repeat' (first
  |(refine cZ (v:=.agg #[.int .i64 64,.int .i64 1,.int .i64 1,.int .i64 1]) rfl _ rfl rfl underlying50 nO.size qBs rfl (by decide) (by decide) rfl ?_;(try simp only [Value.cells]);rw [hzb,hW1];clear hW1)
  |(refine cZ (v:=.agg #[.int .i64 0,.int .i64 0,.int .i64 10]) rfl _ rfl rfl underlying97 qDt.size qFb rfl (by decide) (by decide) rfl ?_;(try simp only [Value.cells]);rw [hz1,hW2];clear hW2)
  |(refine cZ (v:=.slice (some ⟨b + 1,0,none⟩) 1 1) rfl _ rfl rfl underlying51 qEh.size qBv rfl (by decide) (by decide) rfl ?_;(try simp only [Value.cells]);rw [hz2,hW3];clear hW3)
  |go_values|go_skip|go_guarded|refine wg ?_|go_step|go_upon)
 refine HBE.out.mono ?_;rintro er Wn (⟨h,_⟩|⟨_,y,rfl,hs,_,hb⟩)
 · exact absurd qFw h
 obtain ⟨hgd,hwd⟩:=qN (l:=[]) qFw (fun r hr=> nomatch hr);have HEX:=hU qHs;obtain ⟨m0,hm0⟩:∃ m0,gE exP []=m0:=⟨_,rfl⟩
 rw [hm0] at hs hgd hwd HEX ⊢;replace HB:=nW hb HB;have HY:=hU hs;have HG:=hU (And.intro hgd hwd);have HON:=hU (nT hs);have HPL:=hU (fun W (hb:Below Wn.heap.size Wn W)=> hs.pl.below hb);clear hb hs HBE hgd hwd hm0;obtain ⟨b5,hab5,hbz5⟩:=nbz HB;obtain ⟨W5,hW5,hba5,HZ5⟩:=nb1 (W:=Wn) (.cells zSy 61) hab5;dsimp only
 repeat' (first
  |(rw [hW5,hab5];clear hW5)
  |(refine sN 61 (.agg (aS y m0)) 0 (aS y m0) dZ.size HZ5.out HON.out fun Wn hp=> ?_
    have hbb:=Below.put hba5 hp (Nat.le_of_eq hab5);replace HY:=hU (HY.out.below hbb);replace HB:=nW hbb HB;have HQ:=pA hp;clear hbb hp hba5 HZ5 HON)
  |(refine aE (t:=61) (v:=.agg (aS y m0)) rfl rfl rfl (aD dZ HQ.out rfl) ?_)
  |go_values|go_skip|go_guarded|refine wg ?_|go_step|go_upon)
 refine (HRun y m0 0 10 10 _ HY.out HG.out.1 HG.out.2 rfl (by decide) (HT.out _ HB.out)).mono ?_;rintro er Wn ⟨y2,rfl,hs,_,hb⟩;obtain ⟨m1,hm1⟩:∃ m1,jO 10 m0=m1:=⟨_,rfl⟩
 rw [hm1] at hs HEX ⊢;replace HB:=nW hb HB;replace HY:=hU hs;have HON:=hU (nT hs);clear hb hs HG HQ hm1 HPL;obtain ⟨hn1,hn2⟩:=HEX.out;have hsl:m1.seats.length=1:=by have:=congrArg List.length hn1;simpa using this
 obtain ⟨s,hs0,hs8⟩:∃ s,m1.seats[0]? =some s∧s.k.now=8:=by
  cases hh:m1.seats with
  |nil=> rw [hh] at hsl;cases hsl
  |cons s t=>
   rw [hh,List.map_cons] at hn1;injection hn1 with h1 _
   exact ⟨s,rfl,h1⟩
 obtain ⟨x,hx,hxs,hlx⟩:=HY.out.seat hs0;obtain ⟨a8,cp8,hse8,_,_⟩:=HY.out.se.1.shape;have hel:=HY.out.se.1;rw [hse8] at hel;obtain ⟨g8,off8,hga8,hgl8,hcell8⟩:=hel.elem.2.2.2 0 x hx;subst hga8;rw [show y2.ls.length=1 by rw [HY.out.len.1];exact hsl] at hse8;obtain ⟨Wr,hWr⟩:∃ Wr,Wr=Wn:=⟨_,rfl⟩
 have HC8:Hid (∀ W,Below Wr.heap.size Wr W→W.cell? ⟨g8,off8 + 7,none⟩=some (.int .u64 8)):=hU (fun W hb=> by
  rw [hWr] at hb;have:=hcell8 W hb 7 (.int .u64 x.s.k.now) rfl
  rw [hxs,hs8,Nat.zero_mul,Nat.add_zero] at this;exact this)
 have HRW:Hid (Below Wr.heap.size Wr Wn):=hU (by rw [hWr];exact Below.refl _ _);have HSE:=hU hse8;have HN2:=hU hn2;clear hn1 hn2 hsl hs0 hs8 hx hxs hlx hel hse8 hcell8 hgl8 hWr HEX;obtain ⟨b6,hab6,hbz6⟩:=nbz HB;obtain ⟨W6,hW6,hba6,HZ6⟩:=nb1 (W:=Wn) (.cells zSy 61) hab6;dsimp only
 repeat' (first
  |(rw [hW6,hab6];clear hW6)
  |(refine sN 61 (.agg (aS y2 m1)) 0 (aS y2 m1) dZ.size HZ6.out HON.out fun Wn hp=> ?_
    have hbb:=Below.put hba6 hp (Nat.le_of_eq hab6);replace HB:=nW hbb HB;have HK:=pA hp;have c8:Wn.cell? ⟨b6,8,none⟩=some (.slice (some ⟨g8,off8,none⟩) 1 cp8):=(aC HK.out 8).trans (congrArg some HSE.out);have c5:Wn.cell? ⟨b6,5,none⟩=some (.int .u64 10):=(show _=some (Value.int .u64 m1.now) from aC HK.out 5).trans (by rw [HN2.out]);have c7:=HC8.out Wn (HRW.out.trans (hbb.mono HRW.out.size));clear hbb hp hba6 HZ6 HON)
  |go_values|go_skip|go_guarded|refine wg ?_|go_step|go_upon)
 go_ret;exact cF rfl HB.out
end Hy
end Go.Proofs.YtfncknignkndiaaGreatDoor
namespace Go.Proofs.YtfncknignkndiaaGreatDoor
open Go.Proofs.Tryz
namespace Kn
structure jL (s s':dU):Prop where
 tr:∃ l,s'.k.trace=s.k.trace ++ l
 co:∃ c,s'.k.cons=s.k.cons ++ c
 nw:s.k.now≤s'.k.now
 bo:s.boots≤s'.boots
theorem jL.refl (s:dU):jL s s:=⟨⟨[],(List.append_nil _).symm⟩,⟨⟨#[]⟩,(fE _).symm⟩,Int.le_refl _,Int.le_refl _⟩
theorem jL.trans {a b c:dU} (h:jL a b) (g:jL b c):jL a c:=by
 obtain ⟨⟨l,h1⟩,⟨u,h2⟩,h3,h4⟩:=h;obtain ⟨⟨m,g1⟩,⟨v,g2⟩,g3,g4⟩:=g;exact ⟨⟨l ++ m,by rw [g1,h1,List.append_assoc]⟩,⟨u ++ v,by rw [g2,h2,tS]⟩,Int.le_trans h3 g3,Int.le_trans h4 g4⟩
theorem qEu (x:Part) (s:dU):jL s (jC x s):=by
 unfold jC;split
 · exact .refl s
 · split
   · exact ⟨⟨[],(List.append_nil _).symm⟩,⟨⟨#[]⟩,(fE _).symm⟩,Int.le_refl _,Int.le_refl _⟩
   · split
     · exact ⟨⟨[],(List.append_nil _).symm⟩,⟨⟨#[]⟩,(fE _).symm⟩,by show _≤(reset x.mem s.k).now;rw [xJ];exact Int.le_refl _,by show s.boots≤s.boots + 1;omega⟩
     · exact .refl s
theorem qEr {n:Nat} {x:Part} {s:dU} (h:iV n s) (hb:n≤1000000):jL s (cP x s):=by
 unfold cP;split
 · refine jL.trans ?_ (qEu x _);obtain ⟨_,_,k2,ht,he⟩:=h.k.inv.step h.k.life;obtain ⟨⟨l,t1,_⟩,⟨c,s1,_⟩,_⟩:=ht;exact ⟨⟨l,by show (step s.k).trace=_;rw [he];exact t1⟩,⟨c,by show (step s.k).cons=_;rw [he];exact s1⟩,by show _≤(step s.k).now;rw [qEv h.k h.nw hb];omega,Int.le_refl _⟩
 · exact .refl s
theorem qCa (s:dU):jL s (fP s):=by
 unfold fP;split
 · exact ⟨⟨[],(List.append_nil _).symm⟩,⟨⟨#[]⟩,(fE _).symm⟩,Int.le_refl _,Int.le_refl _⟩
 · exact .refl s
theorem qBz (s:dU) (j:Int) (body:ByteArray):jL s (fX s j body):=by
 obtain ⟨_,h1,h2⟩:=xS s.k j body s.k.now;exact ⟨⟨[],by show (dI s.k j body s.k.now).trace=_;rw [h1,List.append_nil]⟩,⟨⟨#[]⟩,by show (dI s.k j body s.k.now).cons=_;rw [h2,fE]⟩,by show _≤(dI s.k j body s.k.now).now;rw [qAh];exact Int.le_refl _,Int.le_refl _⟩
end Kn
open Go.RowKit KR Kn
namespace Hy
theorem qBf {α:Type} {R:α→α→Prop} (hr:∀ x,R x x) {l:List α} {j:Nat} {t t':α} (ht:l[j]? =some t) (h:R t t') (i:Nat) (s':α) (hs:(l.set j t')[i]? =some s'):∃ s,l[i]? =some s∧R s s':=by
 by_cases hij:j=i
 · subst hij;rw [List.getElem?_set_self (List.getElem?_eq_some_iff.1 ht).1] at hs;obtain rfl:=Option.some.inj hs;exact ⟨t,ht,h⟩
 · rw [List.getElem?_set_ne hij] at hs;exact ⟨s',hs,hr s'⟩
structure mD (m m':cX):Prop where
 se:∀ (i:Nat) (s':dU),m'.seats[i]? =some s'→∃ s,m.seats[i]? =some s∧jL s s'
 ar:∀ (i:Nat) (a':List jZ),m'.arr[i]? =some a'→∃ a,m.arr[i]? =some a∧a.length≤a'.length
theorem mD.same {m m':cX} (hs:m'.seats=m.seats) (ha:m'.arr=m.arr):mD m m':=⟨fun i s h=> ⟨s,by rw [← hs];exact h,.refl s⟩,fun i a h=> ⟨a,by rw [← ha];exact h,Nat.le_refl _⟩⟩
theorem mD.trans {a b c:cX} (h:mD a b) (g:mD b c):mD a c:=⟨fun i s hs=> by
 obtain ⟨s1,h1,g1⟩:=g.se i s hs;obtain ⟨s2,h2,g2⟩:=h.se i s1 h1;exact ⟨s2,h2,g2.trans g1⟩,fun i s hs=> by
 obtain ⟨s1,h1,g1⟩:=g.ar i s hs;obtain ⟨s2,h2,g2⟩:=h.ar i s1 h1;exact ⟨s2,h2,Nat.le_trans g2 g1⟩⟩
theorem mD.set {m m':cX} {j:Nat} {t t':dU} (ht:m.seats[j]? =some t) (hs:m'.seats=m.seats.set j t') (ha:m'.arr=m.arr) (hu:jL t t'):mD m m':=⟨fun i s h=> qBf jL.refl ht hu i s (by rw [← hs];exact h),fun i a h=> ⟨a,by rw [← ha];exact h,Nat.le_refl _⟩⟩
theorem qId (who:Nat) (m:cX) (o:Out):mD m (eL who m o):=by
 unfold eL;split
 · exact .same rfl rfl
 · split
   · next t a ht ha=> exact ⟨fun i s h=> qBf jL.refl ht (qBz t _ _) i s h,fun i b h=> qBf (R:=fun a b=> a.length≤b.length) (fun _=> Nat.le_refl _) ha (by rw [List.length_append];omega) i b h⟩
   · exact .same rfl rfl
theorem qBe (who:Nat):∀ (l:List Out) (m:cX),mD m (l.foldl (eL who) m)
 |[],m=> .same rfl rfl
 |o::l,m=> (qId who m o).trans (qBe who l (eL who m o))
theorem qMd (m:cX):mD m (gA m):=by
 unfold gA;split
 · split
   · next t ht=> exact .set ht rfl rfl (qCa t)
   · exact .same rfl rfl
 · exact .same rfl rfl
theorem qGi {n who:Nat} {m:cX} {s:dU} (hs:m.seats[who]? =some s) (hg:iV n s) (hn:n≤1000000):mD m (lM who m):=by
 rw [lW hs];have h1:mD m (jS who s m):=.set hs rfl rfl (qEr hg hn);refine (h1.trans (qBe who (cP (partOf (m.p.ps.getD who [])) s).k.sent _)).trans ?_;unfold mC;split
 · split <;> exact .same rfl rfl
 · exact .same rfl rfl
theorem qIe {n:Nat} {m:cX} (hg:dP n m) (hn:n≤1000000):mD m (gY m):=by
 have h1:=qMd m;have g1:=hg.win
 have ho:mD m (oQ m):=by
  unfold oQ;split
  · split
    · next s hs=>
      split
      · exact (h1.trans (qGi hs (g1.sg s (List.mem_of_getElem? hs)) hn)).trans (.same rfl rfl)
      · exact h1.trans (.same rfl rfl)
    · exact h1
  · exact h1
 unfold gY qCw;split
 · exact ho.trans (.same rfl rfl)
 · exact ho.trans (.same rfl rfl)
theorem qMb:∀ {k n:Nat} {m:cX},dP n m→gB m→n + 15 * k≤50000→mD m (jO k m)
 |0,_,m,_,_,_=> .same rfl rfl
 |k + 1,n,m,hg,hw,hn=> by
  obtain ⟨h1,h2⟩:=hg.step hw (by omega);exact (qIe hg (by omega)).trans (qMb (k:=k) h1 h2 (by omega))
