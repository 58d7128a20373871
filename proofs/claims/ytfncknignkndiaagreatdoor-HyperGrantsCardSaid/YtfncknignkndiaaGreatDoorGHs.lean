/- transomref06: whose a cycle is, at a plan that may be. Conditions: as told. -/
import Derived.Test.YtfncknignkndiaaGreatDoorHyRCk
import Derived.Test.YtfncknignkndiaaGreatDoorGHr
import Derived.Test.YtfncknignkndiaaGreatDoorHyBeg
import Derived.Test.YtfncknignkndiaaGreatDoorGCard
set_option linter.unusedVariables false
set_option maxRecDepth 100000
set_option maxHeartbeats 8000000
set_option linter.unusedSimpArgs false
namespace Go.Proofs.YtfncknignkndiaaGreatDoor
open Go.Proofs.Tryz
open Go.RowKit KR Kn RegT3
namespace Hy
theorem planAt_of {W:World} {vp vw vc:Value} {P:Pl.fH} (h:jX W (.agg (eV vp vw vc P.fr)) P):iG W 4 vp P.ps∧nF W vw P.ws∧iG W 5 vc P.cs:=by
 obtain ⟨vp',vw',vc',hv,h1,h2,h3⟩:=h;unfold eV at hv;injection hv with hv
 simp only [Array.mk.injEq,List.cons.injEq,and_true,true_and] at hv;obtain ⟨rfl,rfl,rfl⟩:=hv;exact ⟨h1,h2,h3⟩
theorem RThere (vp vw vc:Value) (P:Pl.fH) (s:Nat) (w:World) (h:jX w (.agg (eV vp vw vc P.fr)) P) (hc:Pl.check P=0) (hs:s<P.ws.length):
 Calls prog 62 #[.agg (eV vp vw vc P.fr),.int .i64 s] w (aN (.bool true) w):=by
 obtain ⟨a,c,rfl,_⟩:=(planAt_of h).2.1;obtain ⟨Wn,hW0,hb0,HP⟩:=nb1 (W:=w) (.cells (eV vp (.slice a P.ws.length c) vc P.fr) 53) rfl;have HB:=hU hb0;have HPL:=hU (fun W (hb:Below w.heap.size w W)=> h.below hb);have e1:(0:Int)≤(s:Int):=by omega
 have e2:(s:Int)<(P.ws.length:Int):=by omega
 clear hb0 h;go_in;repeat' (first|(rw [hW0];clear hW0)|(refine aE (t:=53) (v:=.agg (eV vp (.slice a P.ws.length c) vc P.fr)) rfl rfl rfl (aD zO HP.out rfl) ?_)|go_values|go_skip|go_guarded|refine wg ?_|go_step|go_upon)
 refine (RfO.CheckOk _ P _ (HPL.out _ HB.out) hc).mono ?_;rintro er Wn ⟨rfl,hb⟩;replace HP:=nB hb HP;replace HB:=nW hb HB;clear hb;dsimp only;have p2:Wn.cell? ⟨w.heap.size,2,none⟩=some (.slice a P.ws.length c):=aC HP.out 2;repeat' (first|go_skip|go_values|go_skip|go_guarded|refine wg ?_|go_step|go_upon)
 go_ret;exact cF rfl HB.out
def RcR (w:World) (pc:Array Value) (row:List (List Int)) (n:Int) (v:Value) (W:World):Prop:=∃ k:Nat,k≤row.length∧v=.int .i64 k∧Hid (W.heap[w.heap.size]? =some (.cells pc 53 (0,0)))∧Hid (Below w.heap.size w W)∧Hid (nX (row.map sS) n=nX ((row.drop k).map sS) n)
theorem seek_at {row:List (List Int)} {k:Nat} {n:Int} (hk:k<row.length) (ho:qCg (row.getD k [])):nX ((row.drop k).map sS) n=if n - Pl.g (row.getD k []) 1<0∨Pl.g (row.getD k []) 2≤n - Pl.g (row.getD k []) 1 then nX ((row.drop (k + 1)).map sS) n else if n - Pl.g (row.getD k []) 1<2 then (Pl.g (row.getD k []) 0,1) else (Pl.g (row.getD k []) 0,2):=by
 rw [List.drop_eq_getElem_cons hk,List.map_cons];have e:row[k]=row.getD k []:=by rw [List.getD_eq_getElem?_getD,List.getElem?_eq_getElem hk];rfl
 rw [e];obtain ⟨h1,h2,h3⟩:=qBo ho;show (if sU n (sS (row.getD k [])) then _ else if n - (sS (row.getD k [])).at_<2 then ((sS (row.getD k [])).part,(1:Int)) else ((sS (row.getD k [])).part,2))=_
 by_cases hm:sU n (sS (row.getD k []))
 · rw [if_pos hm];unfold sU at hm;rw [h2,h3] at hm;rw [if_pos hm]
 · rw [if_neg hm];unfold sU at hm;rw [h2,h3] at hm;rw [if_neg hm,h1,h2]
theorem RCycle (vp vw vc:Value) (P:Pl.fH) (s:Nat) (n:Int) (w:World) (h:jX w (.agg (eV vp vw vc P.fr)) P) (hc:Pl.check P=0) (hs:s<P.ws.length) (n0:0≤n) (n1:n≤4096):
 Calls prog 63 #[.agg (eV vp vw vc P.fr),.int .i64 s,.int .i64 n] w (aN (.tuple #[.int .i64 (nX (gV P s) n).1,.int .i64 (nX (gV P s) n).2]) w):=by
 have HT:=hU (fun W (hb:Below w.heap.size w W)=> RThere vp vw vc P s W (h.below hb) hc hs);obtain ⟨_,hw,_⟩:=planAt_of h;obtain ⟨_,k2,_,_,_,f1,f2,_,_,hW,_⟩:=Pl.cQ hc;have k2':(P.ps.length:Int)≤4:=by omega
 have hre:=RfO.wins_row hW hs;obtain ⟨a2,c2,rfl,n2,hnil|⟨b,off,rfl,hbl,hcl⟩⟩:=hw
 · rw [hnil] at hs;exact absurd hs (Nat.not_lt_zero _)
 obtain ⟨u,hu,hrow⟩:=hcl s hs;have HROW:=hU hrow;obtain ⟨a3,c3,rfl,n3,_⟩:=hrow;unfold gV;generalize P.ws.getD s []=row at *;have HRE:=hU (fun (j:Nat) (hj:j<row.length)=> RfO.qTh hre hj);have HU:=hU (fun W (hb:Below w.heap.size w W)=> (hb.cell (p:=⟨b,off + s,none⟩) hbl).trans hu);have e1:(0:Int)≤(s:Int):=by omega
 have e2:(s:Int)<(P.ws.length:Int):=by omega
 generalize P.ws.length=nw at *;generalize (P.ps.length:Int)=np at *;generalize P.fr=fr at *;obtain ⟨Wn,hW0,hb0,HP⟩:=nb1 (W:=w) (.cells (eV vp (.slice (some ⟨b,off,none⟩) nw c2) vc fr) 53) rfl;have HB:=hU hb0;clear hb0 h hc hW hre hcl hu hs;go_in;repeat' (first|(rw [hW0];clear hW0)|(refine aE (t:=53) (v:=.agg (eV vp (.slice (some ⟨b,off,none⟩) nw c2) vc fr)) rfl rfl rfl (aD zO HP.out rfl) ?_)|go_values|go_skip|go_guarded|refine wg ?_|go_step|go_upon)
 refine (HT.out _ HB.out).mono ?_;rintro er Wn ⟨rfl,hb⟩;replace HP:=nB hb HP;replace HB:=nW hb HB;clear hb HT;dsimp only;refine sg ?_;intros;go_loopw [9] (fun v wr=> RcR w (eV vp (.slice (some ⟨b,off,none⟩) nw c2) vc fr) row n v wr) (fun v _=> row.length - (intOf v).toNat)
 case atStart=> exact ⟨0,Nat.zero_le _,rfl,HP,HB,hU (by rw [List.drop_zero])⟩
 case round=>
  clear HP HB;obtain ⟨k,hk,rfl,HP,HB,HS⟩:=hrel;have p2:wr.cell? ⟨w.heap.size,2,none⟩=some (.slice (some ⟨b,off,none⟩) nw c2):=aC HP.out 2;have c0:=HU.out wr HB.out;by_cases hlt:k<row.length
  · obtain ⟨a4,c4,hav,hn4,hnil|⟨b3,off3,rfl,hbl3,hcell3⟩⟩:=HROW.out
    · rw [hnil] at hlt;exact absurd hlt (Nat.not_lt_zero _)
    cases hav;have at_:=fun i hi=> (HB.out.cell (p:=⟨b3,off3 + k * 3 + i,none⟩) hbl3).trans (hcell3 k i hlt hi);have d0:=at_ 0 (by omega);have d1:=at_ 1 (by omega);have d2:=at_ 2 (by omega);rw [Nat.add_zero] at d0;obtain ⟨x0,x1,x2,x3,x4,_⟩:=HRE.out _ hlt;have hsk:=seek_at (n:=n) hlt ⟨x0,by omega,x2,by omega,by omega⟩;have HN:=hU (HS.out.trans hsk);clear at_ hcell3 hsk;generalize row.getD k []=r at *;have y1: -9223372036854775808≤Pl.g r 1 + Pl.g r 2:=by omega
    have y2:Pl.g r 1 + Pl.g r 2≤9223372036854775807:=by omega
    have y3: -9223372036854775808≤Pl.g r 1 + 2:=by omega
    have y4:Pl.g r 1 + 2≤9223372036854775807:=by omega
    by_cases h1:Pl.g r 1≤n
    · by_cases h2:n<Pl.g r 1 + Pl.g r 2
      · by_cases h3:n<Pl.g r 1 + 2
        · have HX:=hU (HN.out.trans (by rw [if_neg (by omega),if_pos (by omega)]));clear HN HS;repeat' (first|go_skip|go_values|go_skip|go_guarded|refine wg ?_|go_step|go_upon|go_quiet (fail))
          (apply bodyPost_ret;(simp only [results,results63];go_simp;exact rfl);rfl)
          exact cF (by rw [HX.out]) (HB.out.trans (Below.mono bel HB.out.size))
        · have HX:=hU (HN.out.trans (by rw [if_neg (by omega),if_neg (by omega)]));clear HN HS;repeat' (first|go_skip|go_values|go_skip|go_guarded|refine wg ?_|go_step|go_upon|go_quiet (fail))
          (apply bodyPost_ret;(simp only [results,results63];go_simp;exact rfl);rfl)
          exact cF (by rw [HX.out]) (HB.out.trans (Below.mono bel HB.out.size))
      · have HX:=hU (HN.out.trans (by rw [if_pos (by omega)]));clear HN HS;repeat' (first|go_skip|go_values|go_skip|go_guarded|refine wg ?_|go_step|go_upon|go_quiet (fail))
        exact ⟨⟨k + 1,by omega,by go_num,nB ((Below.refl _ _).alloc (Nat.le_refl _) _) HP,nW ((Below.refl _ _).alloc (Nat.le_refl _) _) HB,HX⟩,by simp [intOf];omega⟩
    · have HX:=hU (HN.out.trans (by rw [if_pos (by omega)]));clear HN HS;repeat' (first|go_skip|go_values|go_skip|go_guarded|refine wg ?_|go_step|go_upon|go_quiet (fail))
      exact ⟨⟨k + 1,by omega,by go_num,nB ((Below.refl _ _).alloc (Nat.le_refl _) _) HP,nW ((Below.refl _ _).alloc (Nat.le_refl _) _) HB,HX⟩,by simp [intOf];omega⟩
  · have HX:=hU (HS.out.trans (by rw [List.drop_of_length_le (by omega)];rfl:_=((-1:Int),(0:Int))));repeat' (first|go_values|go_skip|go_guarded|refine wg ?_|go_step|go_upon|go_quiet (fail))
    (apply bodyPost_ret;(simp only [results,results63];go_simp;exact rfl);rfl)
    exact cF (by rw [HX.out]) HB.out
theorem RAt (vp vw vc:Value) (P:Pl.fH) (s:Nat) (t:Int) (w:World) (h:jX w (.agg (eV vp vw vc P.fr)) P) (hc:Pl.check P=0) (hs:s<P.ws.length) (t0:0≤t) (t1:t≤18446744073709551615):
 Calls prog 28 #[.agg (eV vp vw vc P.fr),.int .i64 s,.int .u64 t] w (aN (.tuple #[.int .i64 (wAt P s t).1,.int .i64 (wAt P s t).2]) w):=by
 obtain ⟨f1,f2⟩:1≤P.fr∧P.fr≤4096:=by have:=Pl.cQ hc;exact ⟨this.2.2.2.2.2.1,this.2.2.2.2.2.2.1⟩
 have hr0:0≤t % P.fr:=Int.emod_nonneg _ (by omega);have hr1:t % P.fr<P.fr:=Int.emod_lt_of_pos _ (by omega);have HT:=hU (fun W (hb:Below w.heap.size w W)=> RThere vp vw vc P s W (h.below hb) hc hs);have HC:=hU (fun W (hb:Below w.heap.size w W)=> RCycle vp vw vc P s (t % P.fr) W (h.below hb) hc hs hr0 (by omega));have HW:Hid (nX (gV P s) (t % P.fr)=wAt P s t):=hU rfl;rw [HW.out] at HC;generalize wAt P s t=a at *;generalize P.fr=fr at *;have hfw:IntKind.u64.wrap fr=fr:=by rw [IntKind.wrap_u64];omega
 have hwi:IntKind.i64.wrap (t % fr)=t % fr:=by rw [IntKind.wrap_i64];omega
 have hne:¬ fr=0:=by omega
 have htm:Hid (t.tmod fr=t % fr):=hU (Int.tmod_eq_emod_of_nonneg t0);have hne2:(fr==0)=false:=by simp [hne]
 obtain ⟨Wn,hW0,hb0,HP⟩:=nb1 (W:=w) (.cells (eV vp vw vc fr) 53) rfl;have HB:=hU hb0;clear hb0 h hc hs HW;go_in;repeat' (first|(rw [hW0];clear hW0)|(refine aE (t:=53) (v:=.agg (eV vp vw vc fr)) rfl rfl rfl (aD zO HP.out rfl) ?_)|go_values|go_skip|go_guarded|refine wg ?_|go_step|go_upon)
 refine (HT.out _ HB.out).mono ?_;rintro er Wn ⟨rfl,hb⟩;replace HP:=nB hb HP;replace HB:=nW hb HB;clear hb HT;dsimp only;refine sg ?_;intros;refine wp_region_noPanic ?_;refine go0 (S:=fun W=> W.heap[w.heap.size]? =some (.cells (eV vp vw vc fr) 53 (0,0))∧W.cell? ⟨w.heap.size,1,none⟩=some (.int .i64 fr)) [] ⟨HP.out,aC HP.out 1⟩ fun hS=> ?_;obtain ⟨Wd,hWd⟩:=exW Wn.drew;have hbd:=dW hWd;replace HP:=nB hbd HP;replace HB:=nW hbd HB;rw [hWd] at hS ⊢;clear hWd hbd;refine tv 0 (.agg (eV vp vw vc fr)) (fun W hSW=> aR rfl rfl (aD zO hSW.1 rfl)) ?_;(try simp only [aF])
 refine tp 1 ?_;(try simp only [aF])
 refine tp 2 ?_;(try simp only [aF])
 refine tp 3 ?_;(try simp only [aF])
 refine tl 4 ?_;(try simp only [aF])
 refine tp 5 ?_;(try simp only [aF])
 refine tp 6 ?_;(try simp only [aF])
 refine tp 7 ?_;(try simp only [aF])
 clear hS;refine ro 8 fun K hK=> ?_;refine want rfl ?_;go_simp;rw [htm.out,hwi];refine (HC.out _ HB.out).mono ?_;rintro er Wn ⟨rfl,hb⟩;replace HP:=nB hb HP;replace HB:=nW hb HB;clear hb;dsimp only;refine nx hK ⟨HP.out,aC HP.out 1⟩ fun hS=> ?_;clear hK K;(try simp only [aF])
 refine tp 9 ?_;(try simp only [aF])
 refine tp 10 ?_;(try simp only [aF])
 refine tp 11 ?_;(try simp only [aF])
 refine tp 12 ?_;(try simp only [aF])
 refine aZ (by kernel_rfl) (NoPanic.normal ?_) _;clear hS;refine sg ?_;intros;(apply bodyPost_ret;(simp only [results,results28];go_simp;exact rfl);rfl)
 exact cF rfl HB.out
end Hy
end Go.Proofs.YtfncknignkndiaaGreatDoor
namespace Go.Proofs.YtfncknignkndiaaGreatDoor
open Go.Proofs.Tryz
open Go.RowKit KR Kn
namespace Hy
theorem uY (mem:Int) (images:List ByteArray) (outs ins:List cS) (now:Int):(eK mem images outs ins now).want=0:=by
 unfold eK;dsimp only;repeat' split
 all_goals first|rfl|exact (pD _ _).2
theorem qR (x:Part) (images:List ByteArray) (outs ins:List cS):(jP x images outs ins).k.want=0:=by
 unfold jP;rw [(qU _ _).2];exact uY _ _ _ _ _
theorem qN {P:Pl.fH} {l:List (List ByteArray)} (hc:Pl.check P=0) (hl:∀ r ∈ l,r.length≤8):dP 0 (gE P l)∧gB (gE P l):=by
 obtain ⟨h1,h2,h3,h4,h5,h6,_⟩:=Pl.cQ hc;have hcs:(fD P).length≤6:=by unfold fD;rw [List.length_map];exact h5
 refine ⟨⟨hc,?_,?_,fun s hs=> ?_,fun a ha=> ?_,?_,Int.le_refl _,?_,Int.le_refl _,Int.le_refl _⟩,fun s hs=> ?_⟩
 · show (List.map _ _).length=_
   rw [List.length_map,List.length_range];rfl
 · exact List.length_replicate
 · obtain ⟨i,_,rfl⟩:=List.mem_map.1 hs;refine xZ (g:=⟨partOf (P.ps.getD i []),l.getD i [],oG (fD P) i,lH (fD P) i⟩) ⟨?_,?_,?_,zZ hc i⟩
   · show (l.getD i []).length≤8
     rw [List.getD_eq_getElem?_getD];cases h:l[i]? with
     |none=> decide
     |some r=> exact hl r (List.mem_of_getElem? h)
   · exact Nat.le_trans (List.length_filter_le _ _) (by omega)
   · exact Nat.le_trans (List.length_filter_le _ _) (by omega)
 · obtain rfl:=List.eq_of_mem_replicate ha;exact Nat.le_refl _
 · show 0<P.ws.length
   omega
 · show (0:Int)<P.ws.length
   omega
 · obtain ⟨i,_,rfl⟩:=List.mem_map.1 hs;rw [qR];decide
def sW (l:List (List ByteArray)):Bool:=l.all (fun r=> decide (r.length≤8)) && decide (l.length≤8)
theorem qOx {l:List (List ByteArray)} (h:sW l=true):∀ r ∈ l,r.length≤8:=by
 unfold sW at h;rw [Bool.and_eq_true,List.all_eq_true] at h;intro r hr;simpa using h.1 r hr
theorem qEa {l:List (List ByteArray)} {i:Nat} {r:List ByteArray} (h:l[i]? =some r) (hr:8<r.length):sW l=false:=by
 unfold sW;rw [Bool.and_eq_false_iff];left
 rw [List.all_eq_false];exact ⟨r,List.mem_of_getElem? h,by simpa using hr⟩
def most (k n:Int):Int:=if k<n then k else n
theorem qYl (n:Int) (w:World):Calls prog 27 #[.int .i64 n] w (Is (.int .i64 (most 300 n)) w):=by
 unfold most;by_cases h:300<n
 · rw [if_pos h];go_in;refine sg ?_;intros;go_ret;exact ⟨rfl,rfl⟩
 · rw [if_neg h];go_in;refine sg ?_;intros;go_ret;exact ⟨rfl,rfl⟩
def FewR (l:List (List ByteArray)) (w:World) (iv:Value) (W:World):Prop:=∃ i:Nat,i≤l.length∧iv=.int .i64 i∧W=w∧∀ k r,k<i→l[k]? =some r→r.length≤8
theorem HFew (v:Value) (l:List (List ByteArray)) (w:World) (h:tP w v l):Calls prog 26 #[v] w (Is (.bool (sW l)) w):=by
 obtain ⟨a,c,rfl,hlc,hmax,hh⟩:=h;have hl63:l.length≤9223372036854775807:=by omega
 have HH:=hU hh;clear hh hlc;go_in;refine sg ?_;intros;go_loopw [3] (fun iv wr=> FewR l w iv wr) (fun iv _=> l.length - (intOf iv).toNat)
 case atStart=> exact ⟨0,Nat.zero_le _,rfl,rfl,fun k r hk=> by omega⟩
 case round=>
  obtain ⟨i,hi,rfl,rfl,hall⟩:=hrel;have HA:=hU hall;clear hall;have i0:(0:Int)≤(i:Int):=by omega
  by_cases hil:i<l.length
  · have e1:decide ((i:Int)<(l.length:Int))=true:=by simp;omega
    have e2:decide (i<l.length)=true:=by simp;omega
    have e3:(i:Int)<(l.length:Int):=by omega
    have e4:IntKind.i64.wrap ((i:Int) + 1)=(i:Int) + 1:=by rw [IntKind.wrap_i64];omega
    obtain ⟨r,hr⟩:∃ r,l[i]? =some r:=⟨_,List.getElem?_eq_getElem hil⟩
    rcases HH.out with rfl|⟨b,off,rfl,hb,hc⟩
    · simp at hil
    · obtain ⟨u,hu,hur⟩:=hc i r hr;obtain ⟨a2,c2,rfl,_,_⟩:=hur.shape;have HR:=hU hr;clear hc hur hr;by_cases h8:8<r.length
      · have e5:decide ((8:Int)<(r.length:Int))=true:=by simp;omega
        have e6:decide (8<r.length)=true:=by simp;omega
        have HF:=hU (qEa HR.out h8);refine sg ?_;intros;go_ret;rw [HF.out];exact ⟨rfl,rfl⟩
      · have e5:decide ((8:Int)<(r.length:Int))=false:=by simp;omega
        have e6:decide (8<r.length)=false:=by simp;omega
        refine sg ?_;intros;refine ⟨⟨i + 1,by omega,by go_num,rfl,fun k r' hk hk2=> ?_⟩,by simp [intOf];omega⟩;by_cases hki:k=i
        · subst hki;rw [HR.out] at hk2;obtain rfl:=Option.some.inj hk2;omega
        · exact HA.out k r' (by omega) hk2
  · have e1:decide ((i:Int)<(l.length:Int))=false:=by simp;omega
    have e2:decide (i<l.length)=false:=by simp;omega
    have hF:sW l=decide ((l.length:Int)≤8):=by
     unfold sW
     have:l.all (fun r=> decide (r.length≤8))=true:=List.all_eq_true.2 fun r hr=> by
      obtain ⟨k,hk⟩:=List.getElem?_of_mem hr;simpa using HA.out k r (by have:=(List.getElem?_eq_some_iff.1 hk).1;omega) hk
     rw [this,Bool.true_and];simp;omega
    have HF:=hU hF;clear hF;refine sg ?_;intros;go_ret;refine ⟨?_,rfl⟩;rw [HF.out];first|rfl|simp
end Hy
end Go.Proofs.YtfncknignkndiaaGreatDoor
namespace Go.Proofs.YtfncknignkndiaaGreatDoor
open Go.Proofs.Tryz
open Go.RowKit KR Kn RegT3
namespace Hy
def exP:Pl.fH:=⟨[[64,1,1,1]],10,[[[0,0,10]]],[]⟩
theorem qFw:Pl.check exP=0:=by kernel_rfl
theorem qHs:(jO 10 (gE exP [])).seats.map (fun s=> s.k.now)=[8]∧(jO 10 (gE exP [])).now=10:=⟨by kernel_rfl,by kernel_rfl⟩
theorem qBs:∀ W,(zeroValue 76).run prog W=.ok (.agg #[.int .i64 0,.int .i64 0,.int .i64 0,.int .i64 0]) W:=iU (by kernel_rfl)
theorem qFb:∀ W,(zeroValue 96).run prog W=.ok (.agg #[.int .i64 0,.int .i64 0,.int .i64 0]) W:=iU (by kernel_rfl)
theorem qBv:∀ W,(zeroValue 97).run prog W=.ok (.slice none 0 0) W:=iU (by kernel_rfl)
theorem qEh:One prog 97:=gU underlying97 rfl (by kernel_rfl)
theorem qDy {W:World} {b:Nat} (h1:W.heap[b]? =some (.cells #[.int .i64 64,.int .i64 1,.int .i64 1,.int .i64 1] 76 (0,0))) (h2:W.heap[b + 1]? =some (.cells #[.int .i64 0,.int .i64 0,.int .i64 10] 96 (0,0)))
 (h3:W.heap[b + 1 + 1]? =some (.cells #[.slice (some ⟨b + 1,0,none⟩) 1 1] 97 (0,0))):iF W (.slice (some ⟨b,0,none⟩) 1 1) (.slice (some ⟨b + 1 + 1,0,none⟩) 1 1) (.slice none 0 0) exP:=by
 refine qEn (qAw (x:=[64,1,1,1]) (f:=uN 4) h1) ⟨_,1,rfl,by decide,.inr ⟨_,0,rfl,hlt h3,fun i hi=> ?_⟩⟩ Rd.nil
 obtain rfl:i=0:=by
  have:i<1:=hi
  omega
 exact ⟨_,aC h3 0,qAb (qAw (x:=[0,0,10]) (f:=uN 3) h2)⟩
theorem qVa (w:World) (hT:Tab w):Calls prog 25 #[] w (aN (.bool true) w):=by
 obtain ⟨b,hzb⟩:∃ b,w.heap.size=b:=⟨_,rfl⟩
 obtain ⟨W1,hW1,hb1,H1⟩:=nb1 (W:=w) (.cells #[.int .i64 64,.int .i64 1,.int .i64 1,.int .i64 1] 76) hzb;have hz1:W1.heap.size=b + 1:=by rw [← hW1,← hzb];simp
 obtain ⟨W2,hW2,hb2,H2⟩:=nb1 (W:=W1) (.cells #[.int .i64 0,.int .i64 0,.int .i64 10] 96) hz1;have hz2:W2.heap.size=b + 1 + 1:=by rw [← hW2];simp [hz1]
 obtain ⟨W3,hW3,hb3,H3⟩:=nb1 (W:=W2) (.cells #[.slice (some ⟨b + 1,0,none⟩) 1 1] 97) hz2;have hB:Below w.heap.size w W3:=(hb1.trans (hb2.mono hb1.size)).trans (hb3.mono (Nat.le_trans hb1.size hb2.size));have hpl:=qDy (nB hb3 (nB hb2 H1)).out (nB hb3 H2).out H3.out;have e4:=qNg (.slice (some ⟨b,0,none⟩) 1 1) (.slice (some ⟨b + 1 + 1,0,none⟩) 1 1) (.slice none 0 0) (.slice none 0 0) exP [] W3 hpl (by decide) ⟨none,0,rfl,Nat.le_refl _,by decide,.inl rfl⟩ (fun r hr=> nomatch hr);have HBE:=hU e4;have HT:=hU (fun W (h:Below w.heap.size w W)=> hT.below h);have HB:=hU hB;clear e4 hpl hB hb1 hb2 hb3 H1 H2 H3 hT;go_in
 repeat' (first
  |(refine cZ (v:=.agg #[.int .i64 64,.int .i64 1,.int .i64 1,.int .i64 1]) rfl _ rfl rfl underlying50 nO.size qBs rfl (by decide) (by decide) rfl ?_;(try simp only [Value.cells]);rw [hzb,hW1];clear hW1)
  |(refine cZ (v:=.agg #[.int .i64 0,.int .i64 0,.int .i64 10]) rfl _ rfl rfl underlying97 qDt.size qFb rfl (by decide) (by decide) rfl ?_;(try simp only [Value.cells]);rw [hz1,hW2];clear hW2)
  |(refine cZ (v:=.slice (some ⟨b + 1,0,none⟩) 1 1) rfl _ rfl rfl underlying51 qEh.size qBv rfl (by decide) (by decide) rfl ?_;(try simp only [Value.cells]);rw [hz2,hW3];clear hW3)
  |go_values|go_skip|go_guarded|refine wg ?_|go_step|go_upon)
 refine HBE.out.mono ?_;rintro er Wn (⟨h,_⟩|⟨_,y,rfl,hs,_,hb⟩)
 · exact absurd qFw h
 obtain ⟨hgd,hwd⟩:=qN (l:=[]) qFw (fun r hr=> nomatch hr);have HEX:=hU qHs;obtain ⟨m0,hm0⟩:∃ m0,gE exP []=m0:=⟨_,rfl⟩
 rw [hm0] at hs hgd hwd HEX ⊢;replace HB:=nW hb HB;have HY:=hU hs;have HG:=hU (And.intro hgd hwd);have HON:=hU (nT hs);have HPL:=hU (fun W (hb:Below Wn.heap.size Wn W)=> hs.pl.below hb);clear hb hs HBE hgd hwd hm0;obtain ⟨b5,hab5,hbz5⟩:=nbz HB;obtain ⟨W5,hW5,hba5,HZ5⟩:=nb1 (W:=Wn) (.cells zSy 61) hab5;dsimp only
 repeat' (first
  |(rw [hW5,hab5];clear hW5)
  |(refine sN 61 (.agg (aS y m0)) 0 (aS y m0) dZ.size HZ5.out HON.out fun Wn hp=> ?_
    have hbb:=Below.put hba5 hp (Nat.le_of_eq hab5);replace HY:=hU (HY.out.below hbb);replace HB:=nW hbb HB;have HQ:=pA hp;clear hbb hp hba5 HZ5 HON)
  |(refine aE (t:=61) (v:=.agg (aS y m0)) rfl rfl rfl (aD dZ HQ.out rfl) ?_)
  |go_values|go_skip|go_guarded|refine wg ?_|go_step|go_upon)
 refine (HRun y m0 0 10 10 _ HY.out HG.out.1 HG.out.2 rfl (by decide) (HT.out _ HB.out)).mono ?_;rintro er Wn ⟨y2,rfl,hs,_,hb⟩;obtain ⟨m1,hm1⟩:∃ m1,jO 10 m0=m1:=⟨_,rfl⟩
 rw [hm1] at hs HEX ⊢;replace HB:=nW hb HB;replace HY:=hU hs;have HON:=hU (nT hs);clear hb hs HG HQ hm1 HPL;obtain ⟨hn1,hn2⟩:=HEX.out;have hsl:m1.seats.length=1:=by have:=congrArg List.length hn1;simpa using this
 obtain ⟨s,hs0,hs8⟩:∃ s,m1.seats[0]? =some s∧s.k.now=8:=by
  cases hh:m1.seats with
  |nil=> rw [hh] at hsl;cases hsl
  |cons s t=>
   rw [hh,List.map_cons] at hn1;injection hn1 with h1 _
   exact ⟨s,rfl,h1⟩
 obtain ⟨x,hx,hxs,hlx⟩:=HY.out.seat hs0;obtain ⟨a8,cp8,hse8,_,_⟩:=HY.out.se.1.shape;have hel:=HY.out.se.1;rw [hse8] at hel;obtain ⟨g8,off8,hga8,hgl8,hcell8⟩:=hel.elem.2.2.2 0 x hx;subst hga8;rw [show y2.ls.length=1 by rw [HY.out.len.1];exact hsl] at hse8;obtain ⟨Wr,hWr⟩:∃ Wr,Wr=Wn:=⟨_,rfl⟩
 have HC8:Hid (∀ W,Below Wr.heap.size Wr W→W.cell? ⟨g8,off8 + 7,none⟩=some (.int .u64 8)):=hU (fun W hb=> by
  rw [hWr] at hb;have:=hcell8 W hb 7 (.int .u64 x.s.k.now) rfl
  rw [hxs,hs8,Nat.zero_mul,Nat.add_zero] at this;exact this)
 have HRW:Hid (Below Wr.heap.size Wr Wn):=hU (by rw [hWr];exact Below.refl _ _);have HSE:=hU hse8;have HN2:=hU hn2;clear hn1 hn2 hsl hs0 hs8 hx hxs hlx hel hse8 hcell8 hgl8 hWr HEX;obtain ⟨b6,hab6,hbz6⟩:=nbz HB;obtain ⟨W6,hW6,hba6,HZ6⟩:=nb1 (W:=Wn) (.cells zSy 61) hab6;dsimp only
 repeat' (first
  |(rw [hW6,hab6];clear hW6)
  |(refine sN 61 (.agg (aS y2 m1)) 0 (aS y2 m1) dZ.size HZ6.out HON.out fun Wn hp=> ?_
    have hbb:=Below.put hba6 hp (Nat.le_of_eq hab6);replace HB:=nW hbb HB;have HK:=pA hp;have c8:Wn.cell? ⟨b6,8,none⟩=some (.slice (some ⟨g8,off8,none⟩) 1 cp8):=(aC HK.out 8).trans (congrArg some HSE.out);have c5:Wn.cell? ⟨b6,5,none⟩=some (.int .u64 10):=(show _=some (Value.int .u64 m1.now) from aC HK.out 5).trans (by rw [HN2.out]);have c7:=HC8.out Wn (HRW.out.trans (hbb.mono HRW.out.size));clear hbb hp hba6 HZ6 HON)
  |go_values|go_skip|go_guarded|refine wg ?_|go_step|go_upon)
 go_ret;exact cF rfl HB.out
