/- ded.Due: the messages that are due, and the others. Conditions: as told. -/
import Derived.Test.YtfncknignkndiaaGreatDoorGHr
import Derived.Test.YtfncknignkndiaaGreatDoorGCard
set_option linter.unusedVariables false
set_option maxRecDepth 100000
set_option maxHeartbeats 8000000
set_option linter.unusedSimpArgs false
namespace Go.Proofs.YtfncknignkndiaaGreatDoor
open Go.Proofs.Tryz
open Go.RowKit KR RegT3
namespace Kn
def sdue:List jZ→Int→Nat
 |[],_=> 0
 |a::l,now=> if now<a.at_ then 0 else sdue l now + 1
theorem sdue_le:∀ (l:List jZ) (now:Int),sdue l now≤l.length
 |[],_=> Nat.le_refl _
 |a::l,now=> by
  unfold sdue;split
  · exact Nat.zero_le _
  · exact Nat.succ_le_succ (sdue_le l now)
theorem sdue_at:∀ {l:List jZ} {now:Int} {i:Nat} {a:jZ},i≤sdue l now→l[i]? =some a→(now<a.at_↔i=sdue l now)
 |b::l,now,0,a,_,hx=> by
  obtain rfl:=Option.some.inj hx;unfold sdue;split
  · next h=> exact ⟨fun _=> rfl,fun _=> h⟩
  · next h=> exact ⟨fun h'=> absurd h' h,fun h'=> by omega⟩
 |b::l,now,i + 1,a,hi,hx=> by
  unfold sdue at hi ⊢;split at hi
  · exact absurd hi (by omega)
  · next h=>
    rw [if_neg h,sdue_at (l:=l) (now:=now) (i:=i) (by omega) (by simpa using hx)];omega
theorem sdue_app {now:Int} {late:List jZ} (h:∀ a ∈ late,now<a.at_):∀ l:List jZ,sdue (l ++ late) now=sdue l now
 |[]=> by
  cases late with
  |nil=> rfl
  |cons a l=> exact if_pos (h a (List.mem_cons_self ..))
 |a::l=> by
  show sdue (a::(l ++ late)) now=_
  unfold sdue;rw [sdue_app h l]
theorem Rd.take {α:Type} {sz:Nat} {f:α→Array Value} {W:World} {a:Option Addr} {n c:Nat} {l:List α} (h:Rd sz f W (.slice a n c) l) (k c':Nat) (hk:k≤n) (h1:k≤c') (h2:c'≤9223372036854775807):Rd sz f W (.slice a k c') (l.take k):=by
 obtain ⟨a0,c0,he,_,_,h⟩:=h;injection he with ha0 hn hc
 subst ha0 hn hc;refine ⟨_,_,by rw [List.length_take,Nat.min_eq_left hk],by rw [List.length_take];omega,h2,?_⟩;rcases h with rfl|⟨b,off,rfl,hb,aC⟩
 · exact .inl (by simp)
 · refine .inr ⟨b,off,rfl,hb,fun i x hx j u hj=> ?_⟩;rw [List.getElem?_take] at hx;split at hx
   · exact aC _ x hx j u hj
   · cases hx
theorem Rd.drop {α:Type} {sz:Nat} {f:α→Array Value} {W:World} {a a':Option Addr} {n c:Nat} {l:List α} (h:Rd sz f W (.slice a n c) l) (k:Nat) (hk:k≤n) (ha:∀ b off,a=some ⟨b,off,none⟩→a'=(if c=k then some ⟨b,off,none⟩ else some ⟨b,off + k * sz,none⟩)):Rd sz f W (.slice a' (n - k) (c - k)) (l.drop k):=by
 obtain ⟨a0,c0,he,h1,h2,h⟩:=h;injection he with ha0 hn hc
 subst ha0 hn hc;refine ⟨_,_,by rw [List.length_drop],by rw [List.length_drop];omega,by omega,?_⟩;by_cases hkn:k=l.length
 · exact .inl (by rw [hkn,List.drop_length])
 · rcases h with rfl|⟨b,off,rfl,hb,aC⟩
   · exact .inl (by simp)
   · refine .inr ⟨b,off + k * sz,by rw [ha b off rfl,if_neg (by omega)],hb,fun i x hx j u hj=> ?_⟩;rw [List.getElem?_drop] at hx;have:=aC _ x hx j u hj
     rw [Nat.add_mul] at this;rwa [Nat.add_assoc off]
theorem Rd.empty {α:Type} {sz:Nat} {f:α→Array Value} {W:World} {a:Option Addr} {c:Nat} (h:c≤9223372036854775807):Rd sz f W (.slice a 0 c) []:=⟨a,c,rfl,Nat.zero_le _,h,.inl rfl⟩
def DueR (l:List jZ) (now:Int) (w:World) (iv:Value) (W:World):Prop:=∃ k:Nat,k≤sdue l now∧iv=.int .i64 k∧W=w
theorem SDue (v:Value) (l:List jZ) (now:Int) (w:World) (h:Rd 3 jZ.cells w v l):
 Calls prog 49 #[v,.int .u64 now] w (fun e w'=> ∃ v1 v2,e=.returned (.tuple #[v1,v2])∧(∀ W,Rd 3 jZ.cells W v l→Rd 3 jZ.cells W v1 (l.take (sdue l now))∧Rd 3 jZ.cells W v2 (l.drop (sdue l now)))∧Below w.heap.size w w'):=by
 have HSL:=hU h;obtain ⟨a,c,rfl,hlc,hcm⟩:=h.shape;have HEL:=hU h.elem.2.2.2;clear h;go_in;refine sg ?_;intros;repeat' (first|go_step3|go_values|go_skip|go_guarded|refine wg ?_|go_step|go_upon)
 go_loopw [6] (fun iv wr=> DueR l now w iv wr) (fun iv _=> sdue l now - (intOf iv).toNat)
 case atStart=> exact ⟨0,Nat.zero_le _,rfl,rfl⟩
 case round=>
  obtain ⟨k,hk,rfl,rfl⟩:=hrel;have hd:=sdue_le l now;have HK:=hU hk;have HD:=hU hd;by_cases hlt:k<l.length
  · obtain ⟨x,hx⟩:∃ x,l[k]? =some x:=⟨_,List.getElem?_eq_getElem hlt⟩
    obtain ⟨b,off,rfl,hbl,aC⟩:=HEL.out k x hx;have hat:=sdue_at hk hx;have c0:wr.cell? ⟨b,off + k * 3,none⟩=some (.int .u64 x.at_):=aC wr (Below.refl _ _) 0 _ rfl;have hj1:(k:Int)<(l.length:Int):=by omega
    have hj0:(0:Int)≤(k:Int):=by omega
    have hge:decide ((l.length:Int)≤(k:Int))=false:=by simp;omega
    by_cases hle:now<x.at_
    · have hgt:decide (now<x.at_)=true:=by simp [hle]
      have HE:=hU (hat.1 hle);have hkc:k≤c:=by omega
      have hkl:k≤l.length:=by omega
      clear aC hx hat hle hk hd;repeat' (first|go_step3|go_values|go_skip|go_guarded|refine wg ?_|go_step|go_upon)
      refine wp_region_noPanic ?_;refine go0 (S:=fun _=> True) [] trivial fun hS=> ?_;refine ts [.p 0,.p 1,.p 2,.p 3,.p 4,.p 5,.p 6,.p 7,.p 8] ?_;refine aZ (by kernel_rfl) (NoPanic.normal ?_) _;clear hS;refine sg ?_;intros;rw [Exit.noGoto_ret];go_ret2
      rw [← HE.out];exact ⟨_,_,rfl,fun W h=> ⟨Rd.take h k k hkl (Nat.le_refl _) (by omega),Rd.drop h k hkl (fun b' off' hb=> by injection hb with hb;injection hb with hb1 hb2 _;subst hb1 hb2;rfl)⟩,(Below.refl _ _).drew⟩
    · have hgt:decide (now<x.at_)=false:=by simp;omega
      have hne:k ≠ sdue l now:=fun e=> hle (hat.2 e);have HNE:=hU hne;clear aC hx hat hle hk hd hne;repeat' (first|go_step3|go_values|go_skip|go_guarded|refine wg ?_|go_step|go_upon)
      have:=HK.out
      have:=HNE.out
      exact ⟨⟨k + 1,by omega,by go_num,rfl⟩,by simp [intOf];omega⟩
  · obtain rfl:k=l.length:=by omega
    have HE:Hid (l.length=sdue l now):=hU (by omega);have hge:decide ((l.length:Int)≤(l.length:Int))=true:=by simp
    clear hk hd;repeat' (first|go_step3|go_values|go_skip|go_guarded|refine wg ?_|go_step|go_upon)
    refine wp_region_noPanic ?_;refine go0 (S:=fun _=> True) [] trivial fun hS=> ?_;refine ts [.p 0,.p 1,.p 2,.p 3,.p 4,.p 5,.p 6,.p 7,.p 8] ?_;refine aZ (by kernel_rfl) (NoPanic.normal ?_) _;clear hS;refine sg ?_;intros;rw [Exit.noGoto_ret];go_ret2
    rw [← HE.out];refine ⟨_,_,rfl,fun W h=> ⟨Rd.take h l.length l.length (Nat.le_refl _) (Nat.le_refl _) (by omega),?_⟩,(Below.refl _ _).drew⟩;rw [List.drop_length];exact Rd.empty (by omega)
end Kn
end Go.Proofs.YtfncknignkndiaaGreatDoor
namespace Go.Proofs.YtfncknignkndiaaGreatDoor
open Go.Proofs.Tryz
open Go.RowKit KR Kn
namespace Hy
theorem uY (mem:Int) (images:List ByteArray) (outs ins:List cS) (now:Int):(eK mem images outs ins now).want=0:=by
 unfold eK;dsimp only;repeat' split
 all_goals first|rfl|exact (pD _ _).2
theorem qR (x:Part) (images:List ByteArray) (outs ins:List cS):(jP x images outs ins).k.want=0:=by
 unfold jP;rw [(qU _ _).2];exact uY _ _ _ _ _
theorem qN {P:Pl.fH} {l:List (List ByteArray)} (hc:Pl.check P=0) (hl:∀ r ∈ l,r.length≤8):dP 0 (gE P l)∧gB (gE P l):=by
 obtain ⟨h1,h2,h3,h4,h5,h6,_⟩:=Pl.cQ hc;have hcs:(fD P).length≤6:=by unfold fD;rw [List.length_map];exact h5
 refine ⟨⟨hc,?_,?_,fun s hs=> ?_,fun a ha=> ?_,?_,Int.le_refl _,?_,Int.le_refl _,Int.le_refl _⟩,fun s hs=> ?_⟩
 · show (List.map _ _).length=_
   rw [List.length_map,List.length_range];rfl
 · exact List.length_replicate
 · obtain ⟨i,_,rfl⟩:=List.mem_map.1 hs;refine xZ (g:=⟨partOf (P.ps.getD i []),l.getD i [],oG (fD P) i,lH (fD P) i⟩) ⟨?_,?_,?_,zZ hc i⟩
   · show (l.getD i []).length≤8
     rw [List.getD_eq_getElem?_getD];cases h:l[i]? with
     |none=> decide
     |some r=> exact hl r (List.mem_of_getElem? h)
   · exact Nat.le_trans (List.length_filter_le _ _) (by omega)
   · exact Nat.le_trans (List.length_filter_le _ _) (by omega)
 · obtain rfl:=List.eq_of_mem_replicate ha;exact Nat.le_refl _
 · show 0<P.ws.length
   omega
 · show (0:Int)<P.ws.length
   omega
 · obtain ⟨i,_,rfl⟩:=List.mem_map.1 hs;rw [qR];decide
def sW (l:List (List ByteArray)):Bool:=l.all (fun r=> decide (r.length≤8)) && decide (l.length≤8)
theorem qOx {l:List (List ByteArray)} (h:sW l=true):∀ r ∈ l,r.length≤8:=by
 unfold sW at h;rw [Bool.and_eq_true,List.all_eq_true] at h;intro r hr;simpa using h.1 r hr
theorem qEa {l:List (List ByteArray)} {i:Nat} {r:List ByteArray} (h:l[i]? =some r) (hr:8<r.length):sW l=false:=by
 unfold sW;rw [Bool.and_eq_false_iff];left
 rw [List.all_eq_false];exact ⟨r,List.mem_of_getElem? h,by simpa using hr⟩
def qGy (n:Int):Int:=if n<0 then 0 else if 600<n then 600 else n
theorem xAf (n:Int):0≤qGy n∧qGy n≤600:=by
 unfold qGy;split
 · omega
 · split <;> omega
theorem qYl (n:Int) (w:World):Calls prog 13 #[.int .i64 n] w (Is (.int .i64 (qGy n)) w):=by
 unfold qGy;by_cases h0:n<0
 · have e0:decide (n<0)=true:=by simp [h0]
   rw [if_pos h0];go_in;refine sg ?_;intros;go_ret;exact ⟨rfl,rfl⟩
 · have e0:decide (n<0)=false:=by simp;omega
   rw [if_neg h0];by_cases h:600<n
   · have e:decide (600<n)=true:=by simp [h]
     rw [if_pos h];go_in;refine sg ?_;intros;go_ret;exact ⟨rfl,rfl⟩
   · have e:decide (600<n)=false:=by simp;omega
     rw [if_neg h];go_in;refine sg ?_;intros;go_ret;exact ⟨rfl,rfl⟩
def FewR (l:List (List ByteArray)) (w:World) (iv:Value) (W:World):Prop:=∃ i:Nat,i≤l.length∧iv=.int .i64 i∧W=w∧∀ k r,k<i→l[k]? =some r→r.length≤8
theorem HFew (v:Value) (l:List (List ByteArray)) (w:World) (h:tP w v l):Calls prog 16 #[v] w (Is (.bool (sW l)) w):=by
 obtain ⟨a,c,rfl,hlc,hmax,hh⟩:=h;have hl63:l.length≤9223372036854775807:=by omega
 have HH:=hU hh;clear hh hlc;go_in;refine sg ?_;intros;go_loopw [3] (fun iv wr=> FewR l w iv wr) (fun iv _=> l.length - (intOf iv).toNat)
 case atStart=> exact ⟨0,Nat.zero_le _,rfl,rfl,fun k r hk=> by omega⟩
 case round=>
  obtain ⟨i,hi,rfl,rfl,hall⟩:=hrel;have HA:=hU hall;clear hall;have i0:(0:Int)≤(i:Int):=by omega
  by_cases hil:i<l.length
  · have e1:decide ((i:Int)<(l.length:Int))=true:=by simp;omega
    have e2:decide (i<l.length)=true:=by simp;omega
    have e3:(i:Int)<(l.length:Int):=by omega
    have e4:IntKind.i64.wrap ((i:Int) + 1)=(i:Int) + 1:=by rw [IntKind.wrap_i64];omega
    obtain ⟨r,hr⟩:∃ r,l[i]? =some r:=⟨_,List.getElem?_eq_getElem hil⟩
    rcases HH.out with rfl|⟨b,off,rfl,hb,hc⟩
    · simp at hil
    · obtain ⟨u,hu,hur⟩:=hc i r hr;obtain ⟨a2,c2,rfl,_,_⟩:=hur.shape;have HR:=hU hr;clear hc hur hr;by_cases h8:8<r.length
      · have e5:decide ((8:Int)<(r.length:Int))=true:=by simp;omega
        have e6:decide (8<r.length)=true:=by simp;omega
        have HF:=hU (qEa HR.out h8);refine sg ?_;intros;go_ret;rw [HF.out];exact ⟨rfl,rfl⟩
      · have e5:decide ((8:Int)<(r.length:Int))=false:=by simp;omega
        have e6:decide (8<r.length)=false:=by simp;omega
        refine sg ?_;intros;refine ⟨⟨i + 1,by omega,by go_num,rfl,fun k r' hk hk2=> ?_⟩,by simp [intOf];omega⟩;by_cases hki:k=i
        · subst hki;rw [HR.out] at hk2;obtain rfl:=Option.some.inj hk2;omega
        · exact HA.out k r' (by omega) hk2
  · have e1:decide ((i:Int)<(l.length:Int))=false:=by simp;omega
    have e2:decide (i<l.length)=false:=by simp;omega
    have hF:sW l=decide ((l.length:Int)≤8):=by
     unfold sW
     have:l.all (fun r=> decide (r.length≤8))=true:=List.all_eq_true.2 fun r hr=> by
      obtain ⟨k,hk⟩:=List.getElem?_of_mem hr;simpa using HA.out k r (by have:=(List.getElem?_eq_some_iff.1 hk).1;omega) hk
     rw [this,Bool.true_and];simp;omega
    have HF:=hU hF;clear hF;refine sg ?_;intros;go_ret;refine ⟨?_,rfl⟩;rw [HF.out];first|rfl|simp
end Hy
end Go.Proofs.YtfncknignkndiaaGreatDoor
namespace Go.Proofs.YtfncknignkndiaaGreatDoor
open Go.Proofs.Tryz
open Go.RowKit KR Kn RegT3
namespace Hy
def exP:Pl.fH:=⟨[[64,1,1,1]],10,[[[0,0,10]]],[]⟩
theorem qFw:Pl.check exP=0:=by kernel_rfl
theorem qHs:(jO 10 (gE exP [])).seats.map (fun s=> s.k.now)=[8]∧(jO 10 (gE exP [])).now=10:=⟨by kernel_rfl,by kernel_rfl⟩
theorem qBs:∀ W,(zeroValue 76).run prog W=.ok (.agg #[.int .i64 0,.int .i64 0,.int .i64 0,.int .i64 0]) W:=iU (by kernel_rfl)
theorem qFb:∀ W,(zeroValue 96).run prog W=.ok (.agg #[.int .i64 0,.int .i64 0,.int .i64 0]) W:=iU (by kernel_rfl)
theorem qBv:∀ W,(zeroValue 97).run prog W=.ok (.slice none 0 0) W:=iU (by kernel_rfl)
theorem qEh:One prog 97:=gU underlying97 rfl (by kernel_rfl)
theorem qDy {W:World} {b:Nat} (h1:W.heap[b]? =some (.cells #[.int .i64 64,.int .i64 1,.int .i64 1,.int .i64 1] 76 (0,0))) (h2:W.heap[b + 1]? =some (.cells #[.int .i64 0,.int .i64 0,.int .i64 10] 96 (0,0)))
 (h3:W.heap[b + 1 + 1]? =some (.cells #[.slice (some ⟨b + 1,0,none⟩) 1 1] 97 (0,0))):iF W (.slice (some ⟨b,0,none⟩) 1 1) (.slice (some ⟨b + 1 + 1,0,none⟩) 1 1) (.slice none 0 0) exP:=by
 refine qEn (qAw (x:=[64,1,1,1]) (f:=uN 4) h1) ⟨_,1,rfl,by decide,.inr ⟨_,0,rfl,hlt h3,fun i hi=> ?_⟩⟩ Rd.nil
 obtain rfl:i=0:=by
  have:i<1:=hi
  omega
 exact ⟨_,aC h3 0,qAb (qAw (x:=[0,0,10]) (f:=uN 3) h2)⟩
theorem qVa (w:World) (hT:Tab w):Calls prog 10 #[] w (aN (.bool true) w):=by
 obtain ⟨b,hzb⟩:∃ b,w.heap.size=b:=⟨_,rfl⟩
 obtain ⟨W1,hW1,hb1,H1⟩:=nb1 (W:=w) (.cells #[.int .i64 64,.int .i64 1,.int .i64 1,.int .i64 1] 76) hzb;have hz1:W1.heap.size=b + 1:=by rw [← hW1,← hzb];simp
 obtain ⟨W2,hW2,hb2,H2⟩:=nb1 (W:=W1) (.cells #[.int .i64 0,.int .i64 0,.int .i64 10] 96) hz1;have hz2:W2.heap.size=b + 1 + 1:=by rw [← hW2];simp [hz1]
 obtain ⟨W3,hW3,hb3,H3⟩:=nb1 (W:=W2) (.cells #[.slice (some ⟨b + 1,0,none⟩) 1 1] 97) hz2;have hB:Below w.heap.size w W3:=(hb1.trans (hb2.mono hb1.size)).trans (hb3.mono (Nat.le_trans hb1.size hb2.size));have hpl:=qDy (nB hb3 (nB hb2 H1)).out (nB hb3 H2).out H3.out;have e4:=qNg (.slice (some ⟨b,0,none⟩) 1 1) (.slice (some ⟨b + 1 + 1,0,none⟩) 1 1) (.slice none 0 0) (.slice none 0 0) exP [] W3 hpl (by decide) ⟨none,0,rfl,Nat.le_refl _,by decide,.inl rfl⟩ (fun r hr=> nomatch hr);have HBE:=hU e4;have HT:=hU (fun W (h:Below w.heap.size w W)=> hT.below h);have HB:=hU hB;clear e4 hpl hB hb1 hb2 hb3 H1 H2 H3 hT;go_in
 repeat' (first
  |(refine cZ (v:=.agg #[.int .i64 64,.int .i64 1,.int .i64 1,.int .i64 1]) rfl _ rfl rfl underlying50 nO.size qBs rfl (by decide) (by decide) rfl ?_;(try simp only [Value.cells]);rw [hzb,hW1];clear hW1)
  |(refine cZ (v:=.agg #[.int .i64 0,.int .i64 0,.int .i64 10]) rfl _ rfl rfl underlying97 qDt.size qFb rfl (by decide) (by decide) rfl ?_;(try simp only [Value.cells]);rw [hz1,hW2];clear hW2)
  |(refine cZ (v:=.slice (some ⟨b + 1,0,none⟩) 1 1) rfl _ rfl rfl underlying51 qEh.size qBv rfl (by decide) (by decide) rfl ?_;(try simp only [Value.cells]);rw [hz2,hW3];clear hW3)
  |go_values|go_skip|go_guarded|refine wg ?_|go_step|go_upon)
 refine HBE.out.mono ?_;rintro er Wn (⟨h,_⟩|⟨_,y,rfl,hs,_,hb⟩)
 · exact absurd qFw h
 obtain ⟨hgd,hwd⟩:=qN (l:=[]) qFw (fun r hr=> nomatch hr);have HEX:=hU qHs;obtain ⟨m0,hm0⟩:∃ m0,gE exP []=m0:=⟨_,rfl⟩
 rw [hm0] at hs hgd hwd HEX ⊢;replace HB:=nW hb HB;have HY:=hU hs;have HG:=hU (And.intro hgd hwd);have HON:=hU (nT hs);have HPL:=hU (fun W (hb:Below Wn.heap.size Wn W)=> hs.pl.below hb);clear hb hs HBE hgd hwd hm0;obtain ⟨b5,hab5,hbz5⟩:=nbz HB;obtain ⟨W5,hW5,hba5,HZ5⟩:=nb1 (W:=Wn) (.cells zSy 61) hab5;dsimp only
 repeat' (first
  |(rw [hW5,hab5];clear hW5)
  |(refine sN 61 (.agg (aS y m0)) 0 (aS y m0) dZ.size HZ5.out HON.out fun Wn hp=> ?_
    have hbb:=Below.put hba5 hp (Nat.le_of_eq hab5);replace HY:=hU (HY.out.below hbb);replace HB:=nW hbb HB;have HQ:=pA hp;clear hbb hp hba5 HZ5 HON)
  |(refine aE (t:=61) (v:=.agg (aS y m0)) rfl rfl rfl (aD dZ HQ.out rfl) ?_)
  |go_values|go_skip|go_guarded|refine wg ?_|go_step|go_upon)
 refine (HRun y m0 0 10 10 _ HY.out HG.out.1 HG.out.2 rfl (by decide) (HT.out _ HB.out)).mono ?_;rintro er Wn ⟨y2,rfl,hs,_,hb⟩;obtain ⟨m1,hm1⟩:∃ m1,jO 10 m0=m1:=⟨_,rfl⟩
 rw [hm1] at hs HEX ⊢;replace HB:=nW hb HB;replace HY:=hU hs;have HON:=hU (nT hs);clear hb hs HG HQ hm1 HPL;obtain ⟨hn1,hn2⟩:=HEX.out;have hsl:m1.seats.length=1:=by have:=congrArg List.length hn1;simpa using this
 obtain ⟨s,hs0,hs8⟩:∃ s,m1.seats[0]? =some s∧s.k.now=8:=by
  cases hh:m1.seats with
  |nil=> rw [hh] at hsl;cases hsl
  |cons s t=>
   rw [hh,List.map_cons] at hn1;injection hn1 with h1 _
   exact ⟨s,rfl,h1⟩
 obtain ⟨x,hx,hxs,hlx⟩:=HY.out.seat hs0;obtain ⟨a8,cp8,hse8,_,_⟩:=HY.out.se.1.shape;have hel:=HY.out.se.1;rw [hse8] at hel;obtain ⟨g8,off8,hga8,hgl8,hcell8⟩:=hel.elem.2.2.2 0 x hx;subst hga8;rw [show y2.ls.length=1 by rw [HY.out.len.1];exact hsl] at hse8;obtain ⟨Wr,hWr⟩:∃ Wr,Wr=Wn:=⟨_,rfl⟩
 have HC8:Hid (∀ W,Below Wr.heap.size Wr W→W.cell? ⟨g8,off8 + 7,none⟩=some (.int .u64 8)):=hU (fun W hb=> by
  rw [hWr] at hb;have:=hcell8 W hb 7 (.int .u64 x.s.k.now) rfl
  rw [hxs,hs8,Nat.zero_mul,Nat.add_zero] at this;exact this)
 have HRW:Hid (Below Wr.heap.size Wr Wn):=hU (by rw [hWr];exact Below.refl _ _);have HSE:=hU hse8;have HN2:=hU hn2;clear hn1 hn2 hsl hs0 hs8 hx hxs hlx hel hse8 hcell8 hgl8 hWr HEX;obtain ⟨b6,hab6,hbz6⟩:=nbz HB;obtain ⟨W6,hW6,hba6,HZ6⟩:=nb1 (W:=Wn) (.cells zSy 61) hab6;dsimp only
 repeat' (first
  |(rw [hW6,hab6];clear hW6)
  |(refine sN 61 (.agg (aS y2 m1)) 0 (aS y2 m1) dZ.size HZ6.out HON.out fun Wn hp=> ?_
    have hbb:=Below.put hba6 hp (Nat.le_of_eq hab6);replace HB:=nW hbb HB;have HK:=pA hp;have c8:Wn.cell? ⟨b6,8,none⟩=some (.slice (some ⟨g8,off8,none⟩) 1 cp8):=(aC HK.out 8).trans (congrArg some HSE.out);have c5:Wn.cell? ⟨b6,5,none⟩=some (.int .u64 10):=(show _=some (Value.int .u64 m1.now) from aC HK.out 5).trans (by rw [HN2.out]);have c7:=HC8.out Wn (HRW.out.trans (hbb.mono HRW.out.size));clear hbb hp hba6 HZ6 HON)
  |go_values|go_skip|go_guarded|refine wg ?_|go_step|go_upon)
 go_ret;exact cF rfl HB.out
end Hy
end Go.Proofs.YtfncknignkndiaaGreatDoor
namespace Go.Proofs.YtfncknignkndiaaGreatDoor
open Go.Proofs.Tryz
namespace Kn
def darr (s:dU) (l:List jZ):dU:=l.foldl (fun s a=> fX s a.port a.body) s
structure Run where
 s:dU
 l:List jZ
def darrive (q:Run):Run:=⟨darr q.s (q.l.take (sdue q.l q.s.k.now)),q.l.drop (sdue q.l q.s.k.now)⟩
def dcycle (x:Part) (q:Run):Run:=⟨cP x (fP (darrive q).s),(darrive q).l⟩
def dgo (x:Part):Nat→Run→Run
 |0,q=> q
 |n + 1,q=> dgo x n (dcycle x q)
theorem dgo_add (x:Part) (a:Nat):∀ (b:Nat) (q:Run),dgo x (a + b) q=dgo x b (dgo x a q):=by
 induction a with
 |zero=> intro b q;rw [Nat.zero_add];rfl
 |succ a ih=> intro b q;rw [Nat.add_right_comm];exact ih b (dcycle x q)
theorem dgo_succ (x:Part) (n:Nat) (q:Run):dgo x (n + 1) q=dcycle x (dgo x n q):=dgo_add x n 1 q
def dbegin (g:qNt) (l:List jZ):Run:=⟨jP g.x g.images g.outs g.ins_,l⟩
def drun (g:qNt) (l:List jZ) (n:Nat):dU:=(darrive (dgo g.x n (dbegin g l))).s
def SmallStamps (l:List jZ):Prop:=∀ a ∈ l,a.body.size≤140737488355328
theorem darr_good {n:Nat} {s:dU} (h:iV n s):∀ {l:List jZ},SmallStamps l→iV (n + l.length) (darr s l):=by
 intro l;induction l generalizing n s with
 |nil=> intro _;exact h
 |cons a l ih=>
  intro hl;have:=ih (h.dI a.port a.body (hl a (List.mem_cons_self ..))) (fun b hb=> hl b (List.mem_cons_of_mem _ hb))
  rw [List.length_cons,Nat.add_comm l.length,← Nat.add_assoc];exact this
theorem darr_now (s:dU):∀ l:List jZ,(darr s l).k.now=s.k.now:=by
 intro l;induction l generalizing s with
 |nil=> rfl
 |cons a l ih=> exact (ih (fX s a.port a.body)).trans (qAh _ _ _ _)
structure RGood (N m:Nat) (q:Run):Prop where
 s:iV (N + m - q.l.length) q.s
 l:SmallStamps q.l
 n:q.l.length≤N
 nw:q.s.k.now≤m
theorem RGood.dI {N m:Nat} {q:Run} (h:RGood N m q):RGood N m (darrive q):=by
 have hd:=sdue_le q.l q.s.k.now;have hn:=h.n;refine ⟨?_,fun a ha=> h.l a (List.mem_of_mem_drop ha),by show (q.l.drop _).length≤_;rw [List.length_drop];omega,by show (darr _ _).k.now≤_;rw [darr_now];exact h.nw⟩;have:=darr_good h.s (l:=q.l.take (sdue q.l q.s.k.now)) (fun a ha=> h.l a (List.mem_of_mem_take ha))
 refine this.mono ?_;show _≤N + m - (q.l.drop _).length
 rw [List.length_take,List.length_drop];omega
theorem swindow_now (s:dU):(fP s).k.now=s.k.now:=by
 unfold fP;split <;> rfl
theorem scycle_now_le {n:Nat} {x:Part} {s:dU} (h:iV n s) (hb:n≤1000000):(cP x s).k.now≤s.k.now + 1:=by
 by_cases h1:s.st=1
 · rw [qXk h hb h1];exact Int.le_refl _
 · rw [qTj h1];omega
theorem RGood.nP {N m:Nat} {x:Part} {q:Run} (h:RGood N m q) (hx:oZ x) (hb:N + m≤100000):RGood N (m + 1) (dcycle x q):=by
 have ha:=h.dI;have hn:=ha.n;have hw:=ha.s.qBp;refine ⟨(hw.nP hx (by omega)).mono (by show _≤N + (m + 1) - (darrive q).l.length;omega),ha.l,ha.n,?_⟩;have h1:=scycle_now_le (x:=x) hw (by omega);have h2:=ha.nw;rw [swindow_now] at h1;show (cP x (fP (darrive q).s)).k.now≤_
 omega
theorem RGood.go {N m:Nat} {x:Part} {q:Run} (h:RGood N m q) (hx:oZ x):∀ k:Nat,N + m + k≤100000→RGood N (m + k) (dgo x k q)
 |0,_=> h
 |k + 1,hk=> by
  rw [dgo_succ];exact (RGood.go h hx k (by omega)).nP hx (by omega)
theorem dbegin_good {g:qNt} (hg:qNu g) {l:List jZ} (hl:SmallStamps l):RGood l.length 0 (dbegin g l):=by
 have hs:=xZ hg;exact ⟨hs.mono (Nat.zero_le _),hl,Nat.le_refl _,hs.nw⟩
theorem dgo_good {g:qNt} (hg:qNu g) {l:List jZ} (hl:SmallStamps l) (k:Nat) (hk:l.length + k≤100000):RGood l.length k (dgo g.x k (dbegin g l)):=by
 have:=(dbegin_good hg hl).go hg.x k (by omega)
 rwa [Nat.zero_add] at this
theorem darrive_late {q:Run} {late:List jZ} (h:∀ a ∈ late,q.s.k.now<a.at_):darrive ⟨q.s,q.l ++ late⟩=⟨(darrive q).s,(darrive q).l ++ late⟩:=by
 have hd:=sdue_le q.l q.s.k.now;unfold darrive;dsimp only;rw [sdue_app h,List.take_append_of_le_length hd,List.drop_append_of_le_length hd]
theorem dgo_late {g:qNt} (hg:qNu g) {l late:List jZ} (hl:SmallStamps l) {n:Nat} (h:∀ a ∈ late,(n:Int)<a.at_):∀ k:Nat,k≤n→l.length + k≤100000→dgo g.x k (dbegin g (l ++ late))=⟨(dgo g.x k (dbegin g l)).s,(dgo g.x k (dbegin g l)).l ++ late⟩
 |0,_,_=> rfl
 |k + 1,hk,hb=> by
  have hq:=dgo_good hg hl k (by omega);rw [dgo_succ,dgo_succ,dgo_late hg hl h k (by omega) (by omega)];unfold dcycle;rw [darrive_late (fun a ha=> by have:=h a ha;have:=hq.nw;omega)]
theorem drun_late {g:qNt} (hg:qNu g) {l late:List jZ} (hl:SmallStamps l) {n:Nat} (h:∀ a ∈ late,(n:Int)<a.at_) (hb:l.length + n≤100000):drun g (l ++ late) n=drun g l n:=by
 have hq:=dgo_good hg hl n hb;unfold drun;rw [dgo_late hg hl h n (Nat.le_refl _) hb,darrive_late (fun a ha=> by have:=h a ha;have:=hq.nw;omega)]
end Kn
end Go.Proofs.YtfncknignkndiaaGreatDoor
namespace Go.Proofs.YtfncknignkndiaaGreatDoor
open Go.Proofs.Tryz
open Go.RowKit KR RegT3
namespace Kn
structure Kept2 (p q:Nat) (w W:World):Prop where
 os:W.os=w.os
 tape:W.tape=w.tape
 output:W.output=w.output
 size:w.heap.size≤W.heap.size
 block:∀ k,k<w.heap.size→k ≠ p→k ≠ q→W.heap[k]? =w.heap[k]?
theorem Kept2.refl (p q:Nat) (w:World):Kept2 p q w w:=⟨rfl,rfl,rfl,Nat.le_refl _,fun _ _ _ _=> rfl⟩
theorem Kept2.trans {p q:Nat} {w W W':World} (h:Kept2 p q w W) (g:Kept2 p q W W'):Kept2 p q w W':=
 ⟨g.os.trans h.os,g.tape.trans h.tape,g.output.trans h.output,Nat.le_trans h.size g.size,fun k h1 h2 h3=> (g.block k (Nat.lt_of_lt_of_le h1 h.size) h2 h3).trans (h.block k h1 h2 h3)⟩
theorem n2 {p q:Nat} {w W W':World} (hb:Below W.heap.size W W') (h:Hid (Kept2 p q w W)):Hid (Kept2 p q w W'):=
 hU (h.out.trans ⟨hb.os,hb.tape,hb.output,hb.size,fun k h1 _ _=> hb.block k h1⟩)
theorem p2 {p q:Nat} {w W W':World} {g:Nat} {cs:Array Value} {T:TypeId} (hp:Put g cs T W W') (h:Hid (Kept2 p q w W)) (hg:g=p∨g=q∨w.heap.size≤g):Hid (Kept2 p q w W'):=
 hU ⟨hp.os.trans h.out.os,hp.tape.trans h.out.tape,hp.output.trans h.out.output,Nat.le_trans h.out.size (Nat.le_of_eq hp.size.symm),fun k h1 h2 h3=> (hp.oth k (by omega)).trans (h.out.block k h1 h2 h3)⟩
theorem Kept2.low {p q B:Nat} {w W:World} (h:Kept2 p q w W) (h1:B≤p) (h2:B≤q) (h3:B≤w.heap.size):Below B w W:=⟨h.os,h.tape,h.output,h.size,fun k hk=> h.block k (by omega) (by omega) (by omega)⟩
theorem nbz2 {p q:Nat} {w W:World} (h:Hid (Kept2 p q w W)):∃ m,W.heap.size=m∧w.heap.size≤m:=⟨_,rfl,h.out.size⟩
theorem k2 {p q g:Nat} {w W:World} {c:Array Value} {T:TypeId} (hk:Kept2 p q w W) (h:Hid (w.heap[g]? =some (.cells c T (0,0)))) (h1:g ≠ p) (h2:g ≠ q):Hid (W.heap[g]? =some (.cells c T (0,0))):=hU ((hk.block g (hlt h.out) h1 h2).trans h.out)
theorem oneSStamp:One prog 69:=gU underlying69 rfl (by kernel_rfl)
theorem noStamp:lX 131:=by decide
theorem noStamps:lX 69:=by decide
theorem aggStamp:Agg prog 131 3:=gD underlying131 rfl (by kernel_rfl)
theorem onesStamp (a:jZ):∀ u ∈ (Value.agg (jZ.cells a)).cells.toList,u.oneCell'=true:=by
 intro u hu;simp only [Value.cells,jZ.cells,List.mem_cons,List.not_mem_nil,or_false] at hu;rcases hu with rfl|rfl|rfl <;> rfl
def GivesD (B p q:Nat) (w0:World) (r:Run) (w:World) (e:Ending) (w':World):Prop:=(∃ v,e=.returned v)∧(∃ y bs lv,w'.heap[q]? =some (.cells (aY y r.s) 67 (0,0))∧aH w' y bs r.s.k∧w'.heap[p]? =some (.cells #[lv] 69 (0,0))∧∀ W,Below B w0 W→Rd 3 jZ.cells W lv r.l)∧Kept2 p q w w'
def ArrR (w:World) (p q:Nat) (s:dU) (ds:List jZ) (rv:Value) (iv:Value) (W:World):Prop:=∃ (i:Nat) (y:Lay) (bs:List fY),i≤ds.length∧iv=.int .i64 i∧Hid (W.heap[q]? =some (.cells (aY y (darr s (ds.take i))) 67 (0,0)))∧Hid (aH W y bs (darr s (ds.take i)).k)∧Hid (W.heap[p]? =some (.cells #[rv] 69 (0,0)))∧Hid (Kept2 p q w W)
theorem darr_take {s:dU} {ds:List jZ} {i:Nat} {a:jZ} (h:ds[i]? =some a):darr s (ds.take (i + 1))=fX (darr s (ds.take i)) a.port a.body:=by
 unfold darr;rw [List.take_add_one,h,Option.toList_some,List.foldl_append];rfl
theorem SArr17 (B p q:Nat) (y:Lay) (bs:List fY) (s:dU) (lv:Value) (l:List jZ) (n:Nat) (w0 w:World) (hw0:Below B w0 w) (hq:w.heap[q]? =some (.cells (aY y s) 67 (0,0))) (hl:aH w y bs s.k) (hp:w.heap[p]? =some (.cells #[lv] 69 (0,0))) (hd:∀ W,Below B w0 W→Rd 3 jZ.cells W lv l)
 (hg:iV n s) (hs:SmallStamps l) (hn:n + l.length≤50000) (b1:B≤p) (b2:B≤q):Calls prog 48 #[.pointer (some ⟨p,0,none⟩),.pointer (some ⟨q,0,none⟩)] w (GivesD B p q w0 (darrive ⟨s,l⟩) w):=by
 have HD:=hU hd;have HG:=hU hg;have HS:=hU hs;have HL:=hU hl;have HQ:=hU hq;have HP:=hU hp;have HB:=hU (Kept2.refl p q w);have hqz:=hlt hq;have hpz:=hlt hp;have f0:w.cell? ⟨p,0,none⟩=some lv:=aC hp 0;have f7:w.cell? ⟨q,7,none⟩=some (.int .u64 s.k.now):=aC hq 7;have e4:=SDue lv l s.k.now w (hd w hw0);have HST:=hU e4;clear hd hg hs hl hq hp e4;go_in;refine sg ?_;intros;refine (HST.out).mono ?_;rintro er Wn ⟨v1,v2,rfl,hv,hb⟩;replace HQ:=nB hb HQ;replace HP:=nB hb HP;replace HL:=nL hb HL;replace HB:=n2 hb HB;clear hb;have HV:=hU hv;clear hv f0 f7 HST;dsimp only;obtain ⟨d,hd⟩:∃ d,sdue l s.k.now=d:=⟨_,rfl⟩
 have hdl:d≤l.length:=by rw [← hd];exact sdue_le _ _
 have HDA:Hid (darrive ⟨s,l⟩=⟨darr s (l.take d),l.drop d⟩):=hU (by rw [← hd];rfl);rw [hd] at HV;clear hd;have HR:=hU (fun W (h:Below B w0 W)=> HV.out W (HD.out W h));have hlow:Below B w0 Wn:=hw0.trans (HB.out.low b1 b2 (by omega));obtain ⟨a2,c2,hv2,_,_⟩:=(HR.out Wn hlow).2.shape;obtain ⟨a1,c1,hv1,_,hc1⟩:=(HR.out Wn hlow).1.shape;have hlt1:(l.take d).length=d:=by rw [List.length_take,Nat.min_eq_left hdl]
 have hlt2:(l.drop d).length=l.length - d:=List.length_drop ..;rw [hlt1] at hv1;rw [hlt2] at hv2;rw [hv1,hv2] at HR;subst hv1 hv2;clear HV HD hlow
 repeat' (first
  |(refine aP (t:=69) (v:=.slice a2 (l.length - d) c2) (off:=0) (new:=#[.slice a2 (l.length - d) c2]) rfl rfl rfl rfl oneSStamp HP.out rfl rfl (show 0 + 1≤1 by decide) rfl ?_;intro Wn hp
    replace HB:=p2 hp HB (by omega);replace HQ:=pT hp HP HQ;replace HL:=pL hp HP HL;replace HP:=pA hp;clear hp)
  |go_values|go_skip|go_guarded|refine wg ?_|go_step|go_upon)
 obtain ⟨ds,hds⟩:∃ ds,l.take d=ds:=⟨_,rfl⟩
 have hdn:ds.length=d:=by rw [← hds];exact hlt1
 rw [hds] at HDA HR;have HSD:Hid (SmallStamps ds):=hU (by rw [← hds];exact fun a ha=> HS.out a (List.mem_of_mem_take ha));clear hlt1 hlt2 hds HS;have HRT:=hU (fun W h=> (HR.out W h).1);have HRD:=hU (fun W h=> (HR.out W h).2);clear HR;have HW:=HB;have HRB:Hid (Below B w0 Wn):=hU (hw0.trans (HB.out.low b1 b2 (by omega)));have hBz:B≤Wn.heap.size:=by have:=HB.out.size;omega
 obtain ⟨Wm,rfl⟩:∃ Wm,Wm=Wn:=⟨_,rfl⟩
 go_loopw [17] (fun iv wr=> ArrR Wm p q s ds (.slice a2 (l.length - d) c2) iv wr) (fun iv _=> d - (intOf iv).toNat)
 case atStart=> exact ⟨0,y,bs,Nat.zero_le _,rfl,HQ,HL,HP,hU (Kept2.refl p q _)⟩
 case round=>
  clear HQ HL HP HB;obtain ⟨i,yi,bi,hi,rfl,HQ,HL,HP,HB⟩:=hrel;obtain ⟨Wn,rfl⟩:∃ Wn,Wn=wr:=⟨_,rfl⟩
  obtain ⟨si,hsi⟩:∃ si,darr s (ds.take i)=si:=⟨_,rfl⟩
  have HGD:Hid (iV (n + i) si):=hU (by
   have:=darr_good HG.out (l:=ds.take i) (fun a ha=> HSD.out a (List.mem_of_mem_take ha))
   rw [hsi,List.length_take] at this;exact this.mono (by omega))
  rw [hsi] at HQ HL;have HSI:=hU hsi;clear hsi;have hqz:=hlt HQ.out;have hpz:=hlt HP.out;by_cases hil:i<d
  · have hj1:decide ((i:Int)<(d:Int))=true:=by simp [hil]
    have hj2:(i:Int)<(d:Int):=by omega
    have hj0:(0:Int)≤(i:Int):=by omega
    obtain ⟨a,hx⟩:∃ a,ds[i]? =some a:=⟨_,List.getElem?_eq_getElem (by omega)⟩
    have hlow:Below B w0 Wn:=HRB.out.trans (HB.out.low b1 b2 hBz);obtain ⟨gb,off,rfl,hgb,hcell0⟩:=(HRT.out Wn hlow).elem.2.2.2 i a hx;have HCE:=hU (hcell0 Wn (Below.refl _ _));have hsm:=HSD.out a (List.mem_of_getElem? hx);have htk:=darr_take (s:=s) hx;rw [HSI.out] at htk;have HTK:=hU htk;clear hcell0 hx htk hlow;obtain ⟨bHT,hab,habHT⟩:=nbz2 HB;have hxHQHT:=nlt HQ hab;have hxHPHT:=nlt HP hab;obtain ⟨Wn,hWn,hba,HT⟩:=nb1 (W:=Wn) (.cells #[.int .u64 0,.int .i64 0,.string ⟨#[]⟩] 131) hab;replace HQ:=nB hba HQ;replace HP:=nB hba HP;replace HL:=nL hba HL;replace HB:=n2 hba HB;clear hba
    repeat' (first
     |(rw [hWn,hab];clear hWn hab)
     |(refine aE (t:=131) (v:=.agg (jZ.cells a)) rfl rfl rfl (cA aggStamp rfl HCE.out) ?_;clear HCE)
     |(refine sN 131 (.agg (jZ.cells a)) 0 (jZ.cells a) aggStamp.size HT.out (onesStamp a) fun Wn hp=> ?_
       replace HB:=p2 hp HB (by omega);replace HQ:=pT hp HT HQ;replace HP:=pT hp HT HP;replace HL:=pL hp HT HL;replace HT:=pA hp;clear hp;have f1:Wn.cell? ⟨bHT,1,none⟩=some (.int .i64 a.port):=aC HT.out 1;have f2:Wn.cell? ⟨bHT,2,none⟩=some (.string a.body):=aC HT.out 2)
     |(refine aE (t:=67) (v:=.agg (aY yi si)) rfl rfl rfl (aD dN HQ.out rfl) ?_)
     |go_values|go_skip|go_guarded|refine wg ?_|go_step|go_upon)
    refine (qNs (.agg (aY yi si)) si a.port a.body _ ⟨yi,bi,rfl,HL.out⟩ (by have:=HGD.out.k.bl;omega) (by have:=HGD.out.k.il;omega) (fun q hq=> by have:=HGD.out.k.bn q hq;omega)).mono ?_;rintro er Wn ⟨vA,rfl,⟨yA,bsA,rfl,hl⟩,hb⟩;replace HQ:=nB hb HQ;replace HP:=nB hb HP;replace HT:=nB hb HT;replace HL:=nL hb HL;replace HB:=n2 hb HB;clear hb;have HLA:=hU hl;clear hl;dsimp only;clear f1 f2 HL;have HO:=hU (sP HLA.out)
    repeat' (first
     |(refine sN 67 (.agg (aY yA (fX si a.port a.body))) 0 (aY yA (fX si a.port a.body)) dN.size HQ.out HO.out fun Wn hp=> ?_
       replace HB:=p2 hp HB (by omega);replace HP:=pT hp HQ HP;replace HT:=pT hp HQ HT;replace HLA:=pL hp HQ HLA pH;replace HQ:=pA hp;clear hp)
     |go_values|go_skip|go_guarded|refine wg ?_|go_step|go_upon)
    exact ⟨⟨i + 1,yA,bsA,by omega,by go_num,by rw [HTK.out];exact HQ,by rw [HTK.out];exact HLA,HP,HB⟩,by simp [intOf];omega⟩
  · have hj1:decide ((i:Int)<(d:Int))=false:=by simp;omega
    refine sg ?_;intros;go_end0
    have hid:i=d:=by omega
    have hsd:si=darr s ds:=by rw [← HSI.out,hid,← hdn,List.take_length]
    rw [HDA.out];refine ⟨⟨_,rfl⟩,⟨yi,bi,_,by rw [← hsd];exact HQ.out,by rw [← hsd];exact HL.out,HP.out,HRD.out⟩,HW.out.trans HB.out⟩
def RunR (w:World) (b:Nat) (x:Part) (q0:Run) (m:Nat) (iv:Value) (W:World):Prop:=∃ (i:Nat) (y:Lay) (bs:List fY) (lv:Value),i≤m∧iv=.int .i64 i∧Hid (W.heap[b]? =some (.cells (aY y (dgo x i q0).s) 67 (0,0)))∧Hid (aH W y bs (dgo x i q0).s.k)∧Hid (W.heap[w.heap.size + 1]? =some (.cells #[lv] 69 (0,0)))∧
 Hid (W.heap[w.heap.size]? =some (.cells x.cells 76 (0,0)))∧Hid (W.heap[w.heap.size + 1 + 1]? =some (.cells zKe 67 (0,0)))∧Hid (∀ W',Below w.heap.size w W'→Rd 3 jZ.cells W' lv (dgo x i q0).l)∧Hid (Below w.heap.size w W)
theorem SRun17 (g:qNt) (iv ov nv lv:Value) (l:List jZ) (n:Int) (w:World) (hi:Rd 1 strCells w iv g.images) (ho:Rd 5 cS.cells w ov g.outs) (hn:Rd 5 cS.cells w nv g.ins_) (hl:Rd 3 jZ.cells w lv l) (hg:qNu g) (hs:SmallStamps l) (hb:l.length + n.toNat≤50000) (hT:Tab w):
 Calls prog 20 #[.agg g.x.cells,iv,ov,nv,lv,.int .i64 n] w (qDm (drun g l n.toNat) w):=by
 obtain ⟨la,lc,rfl,_,_⟩:=hl.shape;obtain ⟨m,hm⟩:∃ m,n.toNat=m:=⟨_,rfl⟩
 rw [hm] at hb ⊢;have hmm:(max n 0:Int)=(m:Int):=by omega
 clear hm;obtain ⟨q0,q1,q2⟩:=gG w w.heap.size (.cells g.x.cells 76) (.cells #[(.slice la l.length lc)] 69) (.cells zKe 67) rfl;have hb0:Below w.heap.size w (((w.alloc (.cells g.x.cells 76)).alloc (.cells #[(.slice la l.length lc)] 69)).alloc (.cells zKe 67)):=bel;obtain ⟨Wn,hW0⟩:=exW (((w.alloc (.cells g.x.cells 76)).alloc (.cells #[(.slice la l.length lc)] 69)).alloc (.cells zKe 67));rw [hW0] at q0 q1 q2 hb0;have HX:=hU q0;have HP:=hU q1;have HR:=hU q2;have HB:=hU hb0;have e4:=qVn g.x iv ov nv g.images g.outs g.ins_ Wn (hi.below hb0) (ho.below hb0) (hn.below hb0) (by have:=hg.im;omega) (by have:=hg.ou;omega) (by have:=hg.ins_;omega) hg.x.m0 hg.x.m1;have HBT:=hU e4;have HG:=hU hg;have HT:=hU (fun W (h:Below w.heap.size w W)=> hT.below h);have HD:Hid (∀ W',Below w.heap.size w W'→Rd 3 jZ.cells W' (.slice la l.length lc) l):=hU (fun W h=> hl.below h);have hR0:=fun k (hk:k≤m)=> dgo_good (g:=g) hg hs k (by omega);have HRG:=hU hR0;clear q0 q1 q2 hb0 hi ho hn hl hg hs hT e4 hR0;go_in;repeat' (first|(rw [hW0];clear hW0)|(refine aE (t:=76) (v:=.agg g.x.cells) rfl rfl rfl (aD nO HX.out rfl) ?_)|go_values|go_skip|go_guarded|refine wg ?_|go_step|go_upon)
 refine (HBT.out).mono ?_;rintro er Wn ⟨vS,rfl,⟨yS,bsS,rfl,hl⟩,hb⟩;replace HX:=nB hb HX;replace HP:=nB hb HP;replace HR:=nB hb HR;replace HB:=nW hb HB;clear hb;have HLS:=hU hl;clear hl;dsimp only;clear HBT;have hq0:dgo g.x 0 (dbegin g l)=dbegin g l:=rfl;obtain ⟨s,hss⟩:∃ s,jP g.x g.images g.outs g.ins_=s:=⟨_,rfl⟩
 rw [hss] at HLS ⊢;have HSS:=hU hss;clear hss hq0;obtain ⟨bHQ,hab,habHQ⟩:=nbz HB;have hxHXHQ:=nlt HX hab;have hxHPHQ:=nlt HP hab;have hxHRHQ:=nlt HR hab;obtain ⟨Wn,hWn,hba,HQ⟩:=nb1 (W:=Wn) (.cells zKe 67) hab;replace HX:=nB hba HX;replace HP:=nB hba HP;replace HR:=nB hba HR;replace HLS:=nL hba HLS;replace HB:=nW hba HB;clear hba;have HO:=hU (sP HLS.out)
 repeat' (first
  |(rw [hWn,hab];clear hWn hab)
  |(refine sN 67 (.agg (aY yS s)) 0 (aY yS s) dN.size HQ.out HO.out fun Wn hp=> ?_
    replace HB:=pW hp HB;replace HX:=pT hp HQ HX;replace HP:=pT hp HQ HP;replace HR:=pO hp HR;replace HLS:=pL hp HQ HLS pH;replace HQ:=pA hp;clear hp)
  |go_values|go_skip|go_guarded|refine wg ?_|go_step|go_upon)
 clear HO;have hQz:=hlt HQ.out;clear hmm;have HB0:=HB;go_loopw [23] (fun iv2 wr=> RunR w bHQ g.x (dbegin g l) m iv2 wr) (fun iv2 _=> m - (intOf iv2).toNat)
 case atStart=> exact ⟨0,yS,bsS,_,Nat.zero_le _,rfl,by rw [show (dgo g.x 0 (dbegin g l)).s=s from HSS.out];exact HQ,by rw [show (dgo g.x 0 (dbegin g l)).s=s from HSS.out];exact HLS,HP,HX,HR,HD,HB⟩
 case round=>
  clear HQ HLS HP HX HR HD HB;obtain ⟨i,yi,bi,lv,him,rfl,HQ,HLI,HP,HX,HR,HD,HB⟩:=hrel;obtain ⟨Wn,rfl⟩:∃ Wn,Wn=wr:=⟨_,rfl⟩
  obtain ⟨q,hq⟩:∃ q,dgo g.x i (dbegin g l)=q:=⟨_,rfl⟩
  have hrg:RGood l.length i q:=by rw [← hq];exact HRG.out i him
  rw [hq] at HQ HLI HD;have HRQ:=hU hrg;have HQQ:=hU hq;have hql:=hrg.n;clear hq hrg;have hzw:=HB.out.size;have hqz:=hlt HQ.out;have e5:=SArr17 w.heap.size (w.heap.size + 1) bHQ yi bi q.s lv q.l (l.length + i - q.l.length) w Wn HB.out HQ.out HLI.out HP.out HD.out HRQ.out.s HRQ.out.l (by omega) (by omega) (by omega);have HAR:=hU e5;clear e5;by_cases hil:i<m
  · have hj1:decide ((i:Int)<(m:Int))=true:=by simp [hil]
    refine sg ?_;intros;refine HAR.out.mono ?_;rintro er Wa ⟨⟨va,rfl⟩,⟨ya,ba,lva,hqa,hla,hpa,hda⟩,hka⟩;replace HX:=k2 hka HX (by omega) (by omega);replace HR:=k2 hka HR (by omega) (by omega);replace HQ:=hU hqa;replace HP:=hU hpa;have HLA:=hU hla;have HDA:=hU hda;replace HB:Hid (Below w.heap.size w Wa):=hU (HB.out.trans (hka.low (by omega) (by omega) (by omega)));obtain ⟨Wn,rfl⟩:∃ Wn,Wn=Wa:=⟨_,rfl⟩
    obtain ⟨qa,hqq⟩:∃ qa,darrive q=qa:=⟨_,rfl⟩
    have HGA:Hid (RGood l.length i qa):=hU (by rw [← hqq];exact HRQ.out.dI);have hqe:darrive ⟨q.s,q.l⟩=qa:=hqq;rw [hqe] at HQ HLA HDA;have HQA:=hU hqq;clear hqa hpa hla hda hka HLI HD HAR hqq hqe;dsimp only;refine sg ?_;intros;refine wp_region_noPanic ?_;refine go0 (S:=fun W=> W.heap[w.heap.size]? =some (.cells g.x.cells 76 (0,0))∧W.heap[bHQ]? =some (.cells (aY ya qa.s) 67 (0,0))) [4] ⟨HX.out,HQ.out⟩ fun hS=> ?_;obtain ⟨Wm,hWd⟩:=exW Wn.drew;replace HX:=dB hWd HX;replace HR:=dB hWd HR;replace HQ:=dB hWd HQ;replace HP:=dB hWd HP;replace HLA:=dL hWd HLA;replace HB:=dWn hWd HB;rw [hWd] at hS ⊢;clear hWd;obtain ⟨Wn,rfl⟩:∃ Wn,Wn=Wm:=⟨_,rfl⟩
    refine tv 0 (.agg g.x.cells) (fun W hSW=> aR rfl rfl (aD nO hSW.1 rfl)) ?_;(try simp only [aF])
    refine tv 1 (.agg (aY ya qa.s)) (fun W hSW=> aR rfl rfl (aD dN hSW.2 rfl)) ?_;(try simp only [aF])
    refine ro 2 fun K hK=> ?_;refine want rfl ?_;go_simp;refine (qRe (.agg (aY ya qa.s)) qa.s _ ⟨ya,ba,rfl,HLA.out⟩).mono ?_;rintro er Wn ⟨vW,rfl,⟨yW,bsW,rfl,hl⟩,hb⟩;replace HX:=nB hb HX;replace HP:=nB hb HP;replace HR:=nB hb HR;replace HQ:=nB hb HQ;replace HLA:=nL hb HLA;replace HB:=nW hb HB;clear hb;have HLW:=hU hl;clear hl;dsimp only;try clear hS
    refine nx hK (⟨HX.out,HQ.out⟩) fun hS=> ?_;clear hK K;(try simp only [aF])
    refine ro 3 fun K hK=> ?_;refine want rfl ?_;go_simp;refine (qVo g.x _ (fP qa.s) (l.length + i - qa.l.length) _ ⟨yW,bsW,rfl,HLW.out⟩ HGA.out.s.qBp (by omega) HG.out.x (HT.out _ HB.out)).mono ?_;rintro er Wn ⟨vC,rfl,⟨yC,bsC,rfl,hl⟩,hb⟩;replace HX:=nB hb HX;replace HP:=nB hb HP;replace HR:=nB hb HR;replace HQ:=nB hb HQ;replace HLA:=nL hb HLA;replace HLW:=nL hb HLW;replace HB:=nW hb HB;clear hb;have HLC:=hU hl;clear hl;dsimp only;try clear hS
    refine nx hK (⟨HX.out,HQ.out⟩) fun hS=> ?_;clear hK K;(try simp only [aF])
    clear HLA HLW;refine ro 4 fun K hK=> ?_;refine want rfl ?_;refine cL (v:=.agg (aY yC (cP g.x (fP qa.s)))) (off:=0) (new:=aY yC (cP g.x (fP qa.s))) rfl rfl rfl dN.size HQ.out rfl (show 0 + 19≤19 by decide) (sP HLC.out) rfl ?_;intro Wn hp;replace HB:=pW hp HB;replace HX:=pT hp HQ HX;replace HP:=pT hp HQ HP;replace HR:=pO hp HR;replace HLC:=pL hp HQ HLC pH;replace HQ:=pA hp;clear hp;refine nt hK ?_;clear hK K;try clear hS
    (try simp only [aF])
    refine aZ (by kernel_rfl) (NoPanic.normal ?_) _;try clear hS
    have hdc:dgo g.x (i + 1) (dbegin g l)=⟨cP g.x (fP qa.s),qa.l⟩:=by rw [dgo_succ,HQQ.out];unfold dcycle;rw [HQA.out]
    refine sg ?_;intros;exact ⟨⟨i + 1,yC,bsC,lva,by omega,by go_num,by rw [hdc];exact HQ,by rw [hdc];exact HLC,HP,HX,HR,by rw [hdc];exact HDA,HB⟩,by simp [intOf];omega⟩
  · have hj1:decide ((i:Int)<(m:Int))=false:=by simp;omega
    refine sg ?_;intros;refine HAR.out.mono ?_;rintro er Wa ⟨⟨va,rfl⟩,⟨ya,ba,lva,hqa,hla,hpa,hda⟩,hka⟩;replace HX:=k2 hka HX (by omega) (by omega);replace HR:=k2 hka HR (by omega) (by omega);replace HQ:=hU hqa;replace HP:=hU hpa;have HLA:=hU hla;have HDA:=hU hda;replace HB:Hid (Below w.heap.size w Wa):=hU (HB.out.trans (hka.low (by omega) (by omega) (by omega)));obtain ⟨Wn,rfl⟩:∃ Wn,Wn=Wa:=⟨_,rfl⟩
    obtain ⟨qa,hqq⟩:∃ qa,darrive q=qa:=⟨_,rfl⟩
    have HGA:Hid (RGood l.length i qa):=hU (by rw [← hqq];exact HRQ.out.dI);have hqe:darrive ⟨q.s,q.l⟩=qa:=hqq;rw [hqe] at HQ HLA HDA;have HQA:=hU hqq;clear hqa hpa hla hda hka HLI HD HAR hqq hqe;dsimp only;have him':i=m:=by omega
    have hdr:drun g l m=qa.s:=by rw [← him'];unfold drun;rw [HQQ.out,HQA.out]
    have HDR:=hU hdr;clear hdr;have HO:=hU (sP HLA.out)
    repeat' (first
     |(refine aE (t:=67) (v:=.agg (aY ya qa.s)) rfl rfl rfl (aD dN HQ.out rfl) ?_)
     |(refine sN 67 (.agg (aY ya qa.s)) 0 (aY ya qa.s) dN.size HR.out HO.out fun Wn hp=> ?_
       replace HB:=pW hp HB;replace HX:=pT hp HR HX;replace HP:=pT hp HR HP;replace HQ:=pO hp HQ;replace HLA:=pL hp HR HLA pH;replace HR:=pA hp;clear hp)
     |go_values|go_skip|go_guarded|refine wg ?_|go_step|go_upon)
    (try simp only [Exit.inBlock,Exit.then]);refine bodyPost_ret (cJ results20 dN rfl HR.out rfl) rfl ?_
    rw [HDR.out];exact ⟨_,rfl,⟨_,_,rfl,HLA.out⟩,HB.out⟩
