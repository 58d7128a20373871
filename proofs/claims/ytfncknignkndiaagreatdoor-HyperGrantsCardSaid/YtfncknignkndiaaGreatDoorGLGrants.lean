/- What the law is asked of, as it comes in. Conditions: as told. -/
import Derived.Test.YtfncknignkndiaaGreatDoorGHs
set_option linter.unusedVariables false
set_option maxRecDepth 100000
set_option maxHeartbeats 8000000
set_option linter.unusedSimpArgs false
namespace Go.Proofs.YtfncknignkndiaaGreatDoor
open Go.ChangeShapes Go.WideShapes Go.ChangeAt Go.RowKit Go.Joins Go.Deep KR Kn
namespace Hy
section
variable {H:Type} {enc:TypeId × Value→H} {w:World} {base b:Nat} {sp:Nat→Bool} {hd:Bool} {r:Reach}
theorem open_inHyperGrants {v:Value} {d:DataW H} {p:List MemPlace} (hv:Value.okWide Tryz.prog w r base 85 v) (h:DataW.Trod enc Tryz.prog w b sp hd 85 v d p):
 ∃ vp vw vc im P l n part,v=.agg #[vp,.int .i64 (Pl.fH.fr P),vw,vc,im,.int .i64 n,.int .i64 part]∧iF w vp vw vc P∧P.fr≤9223372036854775807∧tP w im l∧(∀ y ∈ l,y=[]∨∃ m,y.length≤m∧m * 16 ∈ d.weights Tryz.prog 85)∧(Lit.int .i64 n).wf=true∧(Lit.int .i64 part).wf=true:=by
 obtain ⟨cs,rfl,hsz⟩:=okWide_struct Tryz.underlying85 hv;rw [show Tryz.prog.cellsOf 85=7 by kernel_rfl] at hsz;obtain ⟨fuel,hf⟩:=h;obtain ⟨l0⟩:=cs;match l0,hsz with
 |[c0,c1,c2,c3,c4,c5,c6],_=>
  obtain ⟨xs,n,_,hx2,_,hlen,hge⟩:=DataW.trod_struct Tryz.underlying85 hf;have hx:xs.length=4:=hlen;have g0:DataW.trod enc Tryz.prog w b sp hd n 53 (([c0,c1,c2,c3,c4,c5,c6].drop 0).take (Tryz.prog.cellsOf 53))=xs[0]? :=hge 0 _ rfl;rw [List.getElem?_eq_getElem (by omega),show Tryz.prog.cellsOf 53=4 by kernel_rfl] at g0;have e0:DataW.trod enc Tryz.prog w b sp hd n 53 [c0,c1,c2,c3]=some (xs[0]'(by omega)):=g0;have g1:DataW.trod enc Tryz.prog w b sp hd n 54 (([c0,c1,c2,c3,c4,c5,c6].drop 4).take (Tryz.prog.cellsOf 54))=xs[1]? :=hge 1 _ rfl;rw [List.getElem?_eq_getElem (by omega),show Tryz.prog.cellsOf 54=1 by kernel_rfl] at g1;have e1:DataW.trod enc Tryz.prog w b sp hd n 54 [c4]=some (xs[1]'(by omega)):=g1;have g2:DataW.trod enc Tryz.prog w b sp hd n 3 (([c0,c1,c2,c3,c4,c5,c6].drop 5).take (Tryz.prog.cellsOf 3))=xs[2]? :=hge 2 _ rfl;rw [List.getElem?_eq_getElem (by omega),show Tryz.prog.cellsOf 3=1 by kernel_rfl] at g2;have e2:DataW.trod enc Tryz.prog w b sp hd n 3 [c5]=some (xs[2]'(by omega)):=g2;have g3:DataW.trod enc Tryz.prog w b sp hd n 3 (([c0,c1,c2,c3,c4,c5,c6].drop 6).take (Tryz.prog.cellsOf 3))=xs[3]? :=hge 3 _ rfl;rw [List.getElem?_eq_getElem (by omega),show Tryz.prog.cellsOf 3=1 by kernel_rfl] at g3;have e3:DataW.trod enc Tryz.prog w b sp hd n 3 [c6]=some (xs[3]'(by omega)):=g3;obtain ⟨P,rfl,hpl,hfr⟩:=qIh e0;obtain ⟨l,him,hwl⟩:=qEl e1;obtain ⟨n,rfl,w0⟩:=fI e2;obtain ⟨part,rfl,w1⟩:=fI e3;obtain rfl:=(Prod.mk.inj hx2).1;refine ⟨_,_,_,_,P,l,_,_,rfl,hpl,hfr,him,fun y hy=> (hwl y hy).imp id (fun ⟨m,h1,h2⟩=> ⟨m,h1,?_⟩),w0,w1⟩;unfold DataW.weights;rw [Tryz.underlying85];dsimp only;refine DataW.weights_mem_each (j:=1) (t:=54) (d:=xs[1].1) (by rfl) ?_ _ h2;rw [List.getElem?_map,List.getElem?_eq_getElem (by omega)];rfl
end
end Hy
end Go.Proofs.YtfncknignkndiaaGreatDoor
namespace Go.Proofs.YtfncknignkndiaaGreatDoor
open Go.RowKit KR Kn RegT3
namespace Hy
def indI (P:Pl.fH) (s:Nat) (q:Int) (i:Nat):Nat:=if (nX (gV P s) i).1=q∧(nX (gV P s) i).2=2 then 1 else 0
def frI (P:Pl.fH) (s:Nat) (q:Int):Nat→Nat
 |0=> 0
 |n + 1=> frI P s q n + indI P s q n
def grI (P:Pl.fH) (s:Nat) (q:Int) (f t:Nat):Nat:=t / f * frI P s q f + frI P s q (t % f)
theorem indI_le (P:Pl.fH) (s:Nat) (q:Int) (i:Nat):indI P s q i≤1:=by
 unfold indI;split <;> omega
theorem frI_le (P:Pl.fH) (s:Nat) (q:Int):∀ n,frI P s q n≤n
 |0=> Nat.le_refl _
 |n + 1=> by
  have h1:=frI_le P s q n;have h2:=indI_le P s q n;show frI P s q n + indI P s q n≤n + 1
  omega
theorem grI_succ (P:Pl.fH) (s:Nat) (q:Int) {f:Nat} (hf:1≤f) (t:Nat):grI P s q f (t + 1)=grI P s q f t + indI P s q (t % f):=by
 have hd:=Nat.div_add_mod t f;have hm:=Nat.mod_lt t (show 0<f by omega);have hd1:=Nat.div_add_mod (t + 1) f;unfold grI;by_cases h:t % f + 1<f
 · have e1:(t + 1) / f=t / f:=Nat.div_eq_of_lt_le (by rw [Nat.mul_comm];omega) (by rw [Nat.add_mul,Nat.mul_comm,Nat.one_mul];omega);rw [e1] at hd1 ⊢;have e2:(t + 1) % f=t % f + 1:=by omega
   rw [e2];show _ + (frI P s q (t % f) + indI P s q (t % f))=_
   omega
 · have hh:t % f + 1=f:=by omega
   have e1:(t + 1) / f=t / f + 1:=Nat.div_eq_of_lt_le (by rw [Nat.add_mul,Nat.mul_comm,Nat.one_mul];omega) (by rw [Nat.add_mul,Nat.add_mul,Nat.mul_comm,Nat.one_mul];omega);rw [e1,Nat.mul_add,Nat.mul_one] at hd1;have e2:(t + 1) % f=0:=by omega
   rw [e1,e2,Nat.add_mul,Nat.one_mul]
   have e3:frI P s q f=frI P s q (t % f) + indI P s q (t % f):=by
    have:frI P s q (t % f + 1)=frI P s q (t % f) + indI P s q (t % f):=rfl
    rw [hh] at this;exact this
   show _ + 0=_
   omega
theorem grI_le (P:Pl.fH) (s:Nat) (q:Int) (f t:Nat):grI P s q f t≤t:=by
 have hd:=Nat.div_add_mod t f;have h1:=Nat.mul_le_mul_left (t / f) (frI_le P s q f);have h2:=frI_le P s q (t % f);rw [Nat.mul_comm (t / f) f] at h1;unfold grI;omega
def FrR (w:World) (pc:Array Value) (P:Pl.fH) (s:Nat) (q:Int) (n:Nat) (mv v:Value) (W:World):Prop:=∃ k:Nat,k≤n∧v=.int .i64 k∧mv=.int .i64 (frI P s q k)∧Hid (W.heap[w.heap.size]? =some (.cells pc 53 (0,0)))∧Hid (Below w.heap.size w W)
theorem RFrame (vp vw vc:Value) (P:Pl.fH) (s:Nat) (q:Int) (n:Nat) (w:World) (h:jX w (.agg (eV vp vw vc P.fr)) P) (hc:Pl.check P=0) (hs:s<P.ws.length) (hn:(n:Int)≤P.fr):
 Calls Tryz.prog 70 #[.agg (eV vp vw vc P.fr),.int .i64 s,.int .i64 q,.int .i64 n] w (aN (.int .i64 (frI P s q n)) w):=by
 obtain ⟨f1,f2⟩:1≤P.fr∧P.fr≤4096:=by have:=Pl.cQ hc;exact ⟨this.2.2.2.2.2.1,this.2.2.2.2.2.2.1⟩
 have HT:=hU (fun W (hb:Below w.heap.size w W)=> RThere vp vw vc P s W (h.below hb) hc hs);have HC:=hU (fun (i:Nat) (hi:i<n) W (hb:Below w.heap.size w W)=> RCycle vp vw vc P s (i:Int) W (h.below hb) hc hs (by omega) (by omega));have HF:Hid (∀ i,frI P s q (i + 1)=frI P s q i + (if (nX (gV P s) i).1=q∧(nX (gV P s) i).2=2 then 1 else 0)):=hU (fun _=> rfl);have HL:=hU (frI_le P s q);generalize P.fr=fr at *;obtain ⟨Wn,hW0,hb0,HP⟩:=nb1 (W:=w) (.cells (eV vp vw vc fr) 53) rfl;have HB:=hU hb0;clear hb0 h hc hs;go_in;repeat' (first|(rw [hW0];clear hW0)|(refine aE (t:=53) (v:=.agg (eV vp vw vc fr)) rfl rfl rfl (aD zO HP.out rfl) ?_)|go_values|go_skip|go_guarded|refine wg ?_|go_step|go_upon)
 refine (HT.out _ HB.out).mono ?_;rintro er Wn ⟨rfl,hb⟩;replace HP:=nB hb HP;replace HB:=nW hb HB;clear hb HT;dsimp only;refine sg ?_;intros;go_loopw [10,11] (fun mv v wr=> FrR w (eV vp vw vc fr) P s q n mv v wr) (fun _ v _=> n - (intOf v).toNat)
 case atStart=> exact ⟨0,Nat.zero_le _,rfl,rfl,HP,HB⟩
 case round=>
  clear HP HB;obtain ⟨k,hk,rfl,rfl,HP,HB⟩:=hrel;have p1:wr.cell? ⟨w.heap.size,1,none⟩=some (.int .i64 fr):=aC HP.out 1;by_cases hlt:k<n
  · have e1:decide ((k:Int)<(n:Int))=true:=by simp;omega
    have e2:decide ((k:Int)<fr)=true:=by simp;omega
    have e3:decide (k<n)=true:=by simp;omega
    have hle:=HL.out k;have HN:=HF.out k;have HCk:=hU (HC.out k hlt);generalize nX (gV P s) k=a at HCk HN;repeat' (first|go_skip|(refine aE (t:=53) (v:=.agg (eV vp vw vc fr)) rfl rfl rfl (aD zO HP.out rfl) ?_)|go_values|go_skip|go_guarded|refine wg ?_|go_step|go_upon)
    refine (HCk.out _ HB.out).mono ?_;rintro er Wn ⟨rfl,hb⟩;replace HP:=nB hb HP;replace HB:=nW hb HB;clear hb p1 HCk;dsimp only;by_cases h1:a.1=q
    · have e4:(a.1==q)=true:=by simpa using h1
      by_cases h2:a.2=2
      · have e5:(a.2==2)=true:=by simpa using h2
        rw [if_pos ⟨h1,h2⟩] at HN;have HN:=hU HN;clear h1 h2;repeat' (first|go_skip|go_values|go_skip|go_guarded|refine wg ?_|go_step|go_upon)
        exact ⟨⟨k + 1,by omega,by go_num,by rw [HN.out];go_num,HP,HB⟩,by simp [intOf];omega⟩
      · have e5:(a.2==2)=false:=by simpa using h2
        rw [if_neg (fun h=> h2 h.2)] at HN;have HN:=hU HN;clear h1 h2;repeat' (first|go_skip|go_values|go_skip|go_guarded|refine wg ?_|go_step|go_upon)
        exact ⟨⟨k + 1,by omega,by go_num,by rw [HN.out];rfl,HP,HB⟩,by simp [intOf];omega⟩
    · have e4:(a.1==q)=false:=by simpa using h1
      rw [if_neg (fun h=> h1 h.1)] at HN;have HN:=hU HN;clear h1;repeat' (first|go_skip|go_values|go_skip|go_guarded|refine wg ?_|go_step|go_upon)
      exact ⟨⟨k + 1,by omega,by go_num,by rw [HN.out];rfl,HP,HB⟩,by simp [intOf];omega⟩
  · obtain rfl:k=n:=by omega
    have e1:decide ((k:Int)<(k:Int))=false:=by simp
    repeat' (first|go_skip|go_values|go_skip|go_guarded|refine wg ?_|go_step|go_upon)
    go_ret;exact cF rfl HB.out
theorem RGranted (vp vw vc:Value) (P:Pl.fH) (s:Nat) (q:Int) (f t:Nat) (w:World) (h:jX w (.agg (eV vp vw vc P.fr)) P) (hc:Pl.check P=0) (hs:s<P.ws.length) (hf:(f:Int)=P.fr) (ht:t≤1000000):
 Calls Tryz.prog 30 #[.agg (eV vp vw vc P.fr),.int .i64 s,.int .i64 q,.int .u64 t] w (aN (.int .u64 (grI P s q f t)) w):=by
 obtain ⟨f1,f2⟩:1≤P.fr∧P.fr≤4096:=by have:=Pl.cQ hc;exact ⟨this.2.2.2.2.2.1,this.2.2.2.2.2.2.1⟩
 have hm:=Nat.mod_lt t (show 0<f by omega);have HT:=hU (fun W (hb:Below w.heap.size w W)=> RThere vp vw vc P s W (h.below hb) hc hs);have HC1:=hU (fun W (hb:Below w.heap.size w W)=> RFrame vp vw vc P s q f W (h.below hb) hc hs (by omega));have HC2:=hU (fun W (hb:Below w.heap.size w W)=> RFrame vp vw vc P s q (t % f) W (h.below hb) hc hs (by omega));have HG:Hid (grI P s q f t=t / f * frI P s q f + frI P s q (t % f)):=hU rfl;have hgl:=grI_le P s q f t;have g1:=frI_le P s q f;have g2:=frI_le P s q (t % f);have g3:t / f≤t:=Nat.div_le_self t f;generalize frI P s q f=x1 at *;generalize frI P s q (t % f)=x2 at *;rw [HG.out] at hgl ⊢;clear HG;rw [← hf] at HT HC1 HC2 ⊢;have hr:Hid ((t:Int).tmod (f:Int)=((t % f:Nat):Int)):=hU (by rw [Int.tmod_eq_emod_of_nonneg (by omega)];rfl);have hne:¬ (f:Int)=0:=by omega
 have hne1:¬ f=0:=by omega
 have hne2:((f:Int)==0)=false:=by simp;omega
 have hfw:IntKind.u64.wrap (f:Int)=f:=by rw [IntKind.wrap_u64];omega
 obtain ⟨d,hd⟩:∃ d,t / f=d:=⟨_,rfl⟩
 obtain ⟨r,hrr⟩:∃ r,t % f=r:=⟨_,rfl⟩
 rw [hd] at hgl g3 ⊢;have hq:Hid (IntKind.u64.wrap ((t:Int) / (f:Int))=(d:Int)):=hU (by rw [show (t:Int) / (f:Int)=(d:Int) by rw [← hd];rfl,IntKind.wrap_u64];omega);rw [hrr] at hr hm HC2 g2;have u1:IntKind.u64.wrap (x1:Int)=x1:=by rw [IntKind.wrap_u64];omega
 have u2:IntKind.u64.wrap (x2:Int)=x2:=by rw [IntKind.wrap_u64];omega
 have u3:IntKind.i64.wrap (r:Int)=r:=by rw [IntKind.wrap_i64];omega
 obtain ⟨pr,hpr⟩:∃ pr,d * x1=pr:=⟨_,rfl⟩
 rw [hpr] at hgl ⊢;have u4:IntKind.u64.wrap ((d:Int) * (x1:Int))=(pr:Int):=by rw [← Int.natCast_mul,hpr,IntKind.wrap_u64];omega
 have u5:IntKind.u64.wrap ((pr:Int) + (x2:Int))=((pr + x2:Nat):Int):=by rw [← Int.natCast_add,IntKind.wrap_u64];omega
 have HU:=hU (And.intro u4 u5);obtain ⟨Wn,hW0,hb0,HP⟩:=nb1 (W:=w) (.cells (eV vp vw vc (f:Int)) 53) rfl;have HB:=hU hb0;clear hb0 h hc hs hd hrr hf u4 u5 hgl g3 hm hpr;go_in;repeat' (first|(rw [hW0];clear hW0)|(refine aE (t:=53) (v:=.agg (eV vp vw vc (f:Int))) rfl rfl rfl (aD zO HP.out rfl) ?_)|go_values|go_skip|go_guarded|refine wg ?_|go_step|go_upon)
 refine (HT.out _ HB.out).mono ?_;rintro er Wn ⟨rfl,hb⟩;replace HP:=nB hb HP;replace HB:=nW hb HB;clear hb HT;dsimp only;have p1:Wn.cell? ⟨w.heap.size,1,none⟩=some (.int .i64 (f:Int)):=aC HP.out 1;refine sg ?_;intros;clear p1;refine wp_region_noPanic ?_;refine go0 (S:=fun W=> W.heap[w.heap.size]? =some (.cells (eV vp vw vc (f:Int)) 53 (0,0))∧W.cell? ⟨w.heap.size,1,none⟩=some (.int .i64 (f:Int))) [] ⟨HP.out,aC HP.out 1⟩ fun hS=> ?_;obtain ⟨Wd,hWd⟩:=exW Wn.drew;have hbd:=dW hWd;replace HP:=nB hbd HP;replace HB:=nW hbd HB;rw [hWd] at hS ⊢;clear hWd hbd;refine tp 0 ?_;(try simp only [aF])
 refine tp 1 ?_;(try simp only [aF])
 refine tp 2 ?_;(try simp only [aF])
 refine tv 3 (.agg (eV vp vw vc (f:Int))) (fun W hSW=> aR rfl rfl (aD zO hSW.1 rfl)) ?_;(try simp only [aF])
 refine tp 4 ?_;(try simp only [aF])
 refine tp 5 ?_;(try simp only [aF])
 refine tp 6 ?_;(try simp only [aF])
 refine tl 7 ?_;(try simp only [aF])
 refine tv 11 (.agg (eV vp vw vc (f:Int))) (fun W hSW=> aR rfl rfl (aD zO hSW.1 rfl)) ?_;(try simp only [aF])
 refine tp 12 ?_;(try simp only [aF])
 refine tp 13 ?_;(try simp only [aF])
 refine tp 14 ?_;(try simp only [aF])
 refine tp 15 ?_;(try simp only [aF])
 refine tp 16 ?_;(try simp only [aF])
 refine tp 17 ?_;(try simp only [aF])
 rw [hq.out,hr.out,u3];clear hS;refine ro 8 fun K hK=> ?_;refine want rfl ?_;go_simp;refine (HC1.out _ HB.out).mono ?_;rintro er Wn ⟨rfl,hb⟩;replace HP:=nB hb HP;replace HB:=nW hb HB;clear hb;dsimp only;refine nx hK ⟨HP.out,aC HP.out 1⟩ fun hS=> ?_;clear hK K;(try simp only [aF])
 refine tp 9 ?_;(try simp only [aF])
 refine tp 10 ?_;(try simp only [aF])
 clear hS;refine ro 18 fun K hK=> ?_;refine want rfl ?_;go_simp;refine (HC2.out _ HB.out).mono ?_;rintro er Wn ⟨rfl,hb⟩;replace HP:=nB hb HP;replace HB:=nW hb HB;clear hb;dsimp only;refine nx hK ⟨HP.out,aC HP.out 1⟩ fun hS=> ?_;clear hK K;(try simp only [aF])
 refine tp 19 ?_;(try simp only [aF])
 obtain ⟨u4,u5⟩:=HU.out;rw [u4];refine tp 20 ?_;(try simp only [aF])
 (try rw [u5])
 refine tp 21 ?_;(try simp only [aF])
 refine aZ (by kernel_rfl) (NoPanic.normal ?_) _;clear hS;refine sg ?_;intros;go_ret;exact cF rfl HB.out
end Hy
end Go.Proofs.YtfncknignkndiaaGreatDoor
namespace Go.Proofs.YtfncknignkndiaaGreatDoor
open Go.RowKit KR Kn
namespace Hy
def Qt (a b:dU):Prop:=b.k.now=a.k.now∧(a.st=3→b.st=3)∧(a.st=1→b.st=1)
theorem Qt.refl (a:dU):Qt a a:=⟨rfl,id,id⟩
theorem Qt.trans {a b c:dU} (h:Qt a b) (g:Qt b c):Qt a c:=⟨g.1.trans h.1,fun x=> g.2.1 (h.2.1 x),fun x=> g.2.2 (h.2.2 x)⟩
def QtAll (p:Nat→Prop) (m m':cX):Prop:=∀ (i:Nat) (b:dU),m'.seats[i]? =some b→∃ a,m.seats[i]? =some a∧(p i→Qt a b)
theorem QtAll.trans {p:Nat→Prop} {m m1 m2:cX} (h:QtAll p m m1) (g:QtAll p m1 m2):QtAll p m m2:=fun i c hc=> by
 obtain ⟨b,hb,g1⟩:=g i c hc;obtain ⟨a,ha,h1⟩:=h i b hb;exact ⟨a,ha,fun hp=> (h1 hp).trans (g1 hp)⟩
theorem un_setQ {p:Nat→Prop} {m m':cX} {j:Nat} {t t':dU} (ht:m.seats[j]? =some t) (hs:m'.seats=m.seats.set j t') (hu:p j→Qt t t'):QtAll p m m':=fun i b hb=> by
 rw [hs] at hb;by_cases hij:j=i
 · subst hij;rw [List.getElem?_set_self (List.getElem?_eq_some_iff.1 ht).1] at hb;obtain rfl:=Option.some.inj hb;exact ⟨t,ht,hu⟩
 · rw [List.getElem?_set_ne hij] at hb;exact ⟨b,hb,fun _=> Qt.refl b⟩
theorem un_sameQ {p:Nat→Prop} {m m':cX} (hs:m'.seats=m.seats):QtAll p m m':=fun i b hb=> ⟨b,by rw [← hs];exact hb,fun _=> Qt.refl b⟩
theorem arrive_unQ (t:dU) (j:Int) (body:ByteArray):Qt t (fX t j body):=by
 exact ⟨qAh _ _ _ _,id,id⟩
theorem window_unQ (t:dU):Qt t (fP t):=by
 unfold fP;split
 · next h=> exact ⟨rfl,fun h3=> by omega,fun _=> rfl⟩
 · exact ⟨rfl,id,id⟩
theorem msend_unQ (p:Nat→Prop) (who:Nat) (m:cX) (o:Out):QtAll p m (eL who m o):=by
 unfold eL;split
 · exact un_sameQ rfl
 · split
   · next t a ht ha=> exact un_setQ ht rfl fun _=> arrive_unQ t _ _
   · exact un_sameQ rfl
theorem sends_unQ (p:Nat→Prop) (who:Nat):∀ (l:List Out) (m:cX),QtAll p m (l.foldl (eL who) m)
 |[],m=> un_sameQ rfl
 |o::l,m=> (msend_unQ p who m o).trans (sends_unQ p who l (eL who m o))
theorem mwin_unQ (p:Nat→Prop) (m:cX):QtAll p m (gA m):=by
 unfold gA;split
 · split
   · next t ht=> exact un_setQ ht rfl fun _=> window_unQ t
   · exact un_sameQ rfl
 · exact un_sameQ rfl
theorem mwants_seatsQ (who:Nat) (m:cX):(mC who m).seats=m.seats:=by
 unfold mC;split
 · split <;> rfl
 · rfl
theorem mcycle_unQ {who:Nat} {m:cX} {s:dU} (hs:m.seats[who]? =some s):QtAll (fun i=> i ≠ who) m (lM who m):=by
 rw [lW hs];have h1:QtAll (fun i=> i ≠ who) m (jS who s m):=un_setQ hs rfl fun h=> absurd rfl h;exact (h1.trans (sends_unQ _ who _ _)).trans (un_sameQ (mwants_seatsQ _ _))
theorem mcycle_ownQ {n who:Nat} {m:cX} {s:dU} (hs:m.seats[who]? =some s) (hg:iV n s) (hn:n≤1000000) (h1:s.st=1) {b:dU} (hb:(lM who m).seats[who]? =some b):b.k.now=s.k.now + 1:=by
 rw [lW hs,mwants_seatsQ] at hb;obtain ⟨a,ha,hu⟩:=sends_unQ (fun _=> True) who _ (jS who s m) who b hb;have ha:(m.seats.set who (cP (partOf (m.p.ps.getD who [])) s))[who]? =some a:=ha;rw [List.getElem?_set_self (List.getElem?_eq_some_iff.1 hs).1] at ha;obtain rfl:=Option.some.inj ha;rw [(hu trivial).1,qXk hg hn h1]
theorem mstep_owner {n:Nat} {m:cX} (hg:dP n m):(gY m).owner=(if (wAt m.p m.sched m.now).2=2 then (wAt m.p m.sched m.now).1 else -1):=by
 have hm:(gY m).owner=(oQ m).owner:=by
  unfold gY qCw;split <;> rfl
 have hwo:(gA m).owner= -1:=by
  unfold gA;split
  · split <;> rfl
  · rfl
 rw [hm];unfold oQ;split
 · next h2=>
   have hlt:=qXt hg.ck (s:=m.sched) (t:=m.now) (by rw [h2];decide);have hl:(wAt m.p m.sched m.now).1.toNat<(gA m).seats.length:=by rw [hg.win.sl,(qEf m).1];omega
   rw [List.getElem?_eq_getElem hl]
 · exact hwo
theorem mstep_qt {n:Nat} {m:cX} (hg:dP n m) (hn:n≤1000000) (i:Nat) (b:dU) (hb:(gY m).seats[i]? =some b):∃ a,m.seats[i]? =some a∧((i:Int) ≠ (gY m).owner→Qt a b)∧((i:Int)=(gY m).owner→(b.k.now=a.k.now∨b.k.now=a.k.now + 1)∧(a.st=1→b.k.now=a.k.now + 1)∧(a.st=3→b.st=3)):=by
 have hm:(gY m).seats=(oQ m).seats∧(gY m).owner=(oQ m).owner:=by
  unfold gY qCw;split <;> exact ⟨rfl,rfl⟩
 have hwo:(gA m).owner= -1:=by
  unfold gA;split
  · split <;> rfl
  · rfl
 rw [hm.1] at hb;rw [hm.2]
 have whole:∀ {m':cX},m'.seats[i]? =some b→m'=gA m→∃ a,m.seats[i]? =some a∧((i:Int) ≠ m'.owner→Qt a b)∧((i:Int)=m'.owner→(b.k.now=a.k.now∨b.k.now=a.k.now + 1)∧(a.st=1→b.k.now=a.k.now + 1)∧(a.st=3→b.st=3)):=fun {m'} h he=> by
  subst he;obtain ⟨a,ha,hu⟩:=mwin_unQ (fun _=> True) m i b h;exact ⟨a,ha,fun _=> hu trivial,fun h=> by rw [hwo] at h;omega⟩
 unfold oQ at hb ⊢;by_cases hp:(wAt m.p m.sched m.now).2=2
 · rw [if_pos hp] at hb ⊢;obtain ⟨w0,_⟩:=qXt hg.ck (s:=m.sched) (t:=m.now) (by omega);cases hs:(gA m).seats[(wAt m.p m.sched m.now).1.toNat]? with
   |none=> rw [hs] at hb;exact whole hb rfl
   |some s=>
    rw [hs] at hb;dsimp only at hb ⊢;by_cases h1:s.st=1
    · rw [if_pos h1] at hb;have hb:(lM (wAt m.p m.sched m.now).1.toNat (gA m)).seats[i]? =some b:=hb;obtain ⟨a2,ha2,hu2⟩:=mcycle_unQ hs i b hb;obtain ⟨a,ha,hu⟩:=mwin_unQ (fun _=> True) m i a2 ha2;refine ⟨a,ha,fun h=> (hu trivial).trans (hu2 (fun e=> h (by omega))),fun h=> ?_⟩;obtain rfl:i=(wAt m.p m.sched m.now).1.toNat:=by omega
      rw [hs] at ha2;obtain rfl:=Option.some.inj ha2;have he:b.k.now=a.k.now + 1:=by rw [mcycle_ownQ hs (hg.win.sg s (List.mem_of_getElem? hs)) hn h1 hb,(hu trivial).1]
      exact ⟨.inr he,fun _=> he,fun h3=> by have:=(hu trivial).2.1 h3;omega⟩
    · rw [if_neg h1] at hb;have hb:(gA m).seats[i]? =some b:=hb;obtain ⟨a,ha,hu⟩:=mwin_unQ (fun _=> True) m i b hb;refine ⟨a,ha,fun _=> hu trivial,fun h=> ?_⟩;obtain rfl:i=(wAt m.p m.sched m.now).1.toNat:=by omega
      rw [hs] at hb;obtain rfl:=Option.some.inj hb;exact ⟨.inl (hu trivial).1,fun h=> absurd ((hu trivial).2.2 h) h1,(hu trivial).2.1⟩
 · rw [if_neg hp] at hb ⊢;exact whole hb rfl
structure GrI (P:Pl.fH) (i f j:Nat) (r:Bool) (a:dU):Prop where
 le:a.k.now≤grI P 0 i f j
 eq:r=false→a.k.now=grI P 0 i f j∧(a.st=1∨j=0)
 z:j=0→a.st=1∨a.st=3
theorem gr_step {n:Nat} {m:cX} (hg:dP n m) (hn:n≤1000000) (h1:m.p.ws.length=1) {f j:Nat} (hf:(f:Int)=m.p.fr) (hj:m.now=j) {i:Nat} {a b:dU} {r:Bool} (ha:m.seats[i]? =some a) (h:GrI m.p i f j r a) (hb:(gY m).seats[i]? =some b):
 GrI m.p i f (j + 1) (r||b.st !=1) b:=by
 obtain ⟨a',ha',q1,q2⟩:=mstep_qt hg hn i b hb;rw [ha] at ha';obtain rfl:=Option.some.inj ha';have hf1:1≤f:=by have:=(Pl.cQ hg.ck).2.2.2.2.2.1;omega
 have hs:m.sched=0:=by have:=hg.sc;omega
 have ho:=mstep_owner hg;have hgs:=grI_succ m.p 0 i hf1 j
 have hw:wAt m.p m.sched m.now=nX (gV m.p 0) ((j % f:Nat):Int):=by
  unfold wAt;rw [hs,hj,← hf];rfl
 rw [hw] at ho
 have hi:indI m.p 0 i (j % f)=if (i:Int)=(gY m).owner then 1 else 0:=by
  unfold indI;rw [ho];by_cases h2:(nX (gV m.p 0) ((j % f:Nat):Int)).2=2
  · rw [if_pos h2];by_cases h3:(nX (gV m.p 0) ((j % f:Nat):Int)).1=i
    · rw [if_pos ⟨h3,h2⟩,if_pos h3.symm]
    · rw [if_neg (fun h=> h3 h.1),if_neg (fun h=> h3 h.symm)]
  · rw [if_neg h2,if_neg (fun h=> h2 h.2),if_neg (by omega)]
 rw [hi] at hgs;clear hi hw ho;by_cases hio:(i:Int)=(gY m).owner
 · rw [if_pos hio] at hgs;obtain ⟨k1,k2,k3⟩:=q2 hio;refine ⟨by have:=h.le;omega,fun hr=> ?_,fun h=> absurd h (by omega)⟩;simp only [Bool.or_eq_false_iff,bne_eq_false_iff_eq] at hr;obtain ⟨e1,e2⟩:=h.eq hr.1
   have:a.st=1:=by
    rcases e2 with e2|e2
    · exact e2
    · rcases h.z e2 with e3|e3
      · exact e3
      · have:=k3 e3;omega
   have:=k2 this
   exact ⟨by omega,.inl hr.2⟩
 · rw [if_neg hio] at hgs;obtain ⟨k1,k2,k3⟩:=q1 hio;refine ⟨by have:=h.le;omega,fun hr=> ?_,fun h=> absurd h (by omega)⟩;simp only [Bool.or_eq_false_iff,bne_eq_false_iff_eq] at hr;obtain ⟨e1,e2⟩:=h.eq hr.1;exact ⟨by omega,.inl hr.2⟩
end Hy
end Go.Proofs.YtfncknignkndiaaGreatDoor
namespace Go.Proofs.YtfncknignkndiaaGreatDoor
open Go.RowKit KR Kn RegT3
namespace Hy
theorem scells_at {y:Lay} {s:dU} {j:Nat} {u:Value} (h:(aJ y s.k)[j]? =some u):(aY y s)[j]? =some u:=by
 have hj:j<17:=(Array.getElem?_eq_some_iff.1 h).1;unfold aJ at h;unfold aY;rcases j with _|_|_|_|_|_|_|_|_|_|_|_|_|_|_|_|_|j <;> first|exact h|(exfalso;omega)
theorem onesPcG {W:World} {vp vw vc:Value} {P:Pl.fH} (h:iF W vp vw vc P):∀ u ∈ (Value.agg (eV vp vw vc P.fr)).cells.toList,u.oneCell'=true:=by
 obtain ⟨h1,h2,h3⟩:=qPt h;intro u hu;simp only [Value.cells,eV,List.mem_cons,List.not_mem_nil,or_false] at hu;rcases hu with rfl|rfl|rfl|rfl <;> first|rfl|assumption
theorem scells_st (y:Lay) (s:dU):(aY y s)[17]? =some (.int .i64 s.st):=rfl
theorem mrun_now:∀ (n:Nat) (m:cX),(jO n m).now=m.now + n
 |0,m=> by simp [jO]
 |n + 1,m=> by
  rw [xG,qYf,mrun_now n m];omega
def GrL (w:World) (b3 b5:Nat) (pc:Array Value) (y:YL) (m0:cX) (i f k:Nat) (P:Pl.fH) (rv iv:Value) (W:World):Prop:=∃ (j:Nat) (y':YL) (s:dU) (r:Bool),j≤k∧iv=.int .i64 j∧rv=.bool r∧
 Hid (W.heap[b3]? =some (.cells pc 53 (0,0)))∧Hid (W.heap[b5]? =some (.cells (aS y' (jO j m0)) 61 (0,0)))∧Hid (cW W y' (jO j m0))∧Hid (Below w.heap.size w W)∧
 Hid (y'.vp=y.vp∧y'.vw=y.vw∧y'.vc=y.vc)∧Hid ((jO j m0).seats[i]? =some s)∧Hid (GrI P i f j r s)
theorem begin_z {P:Pl.fH} {l:List (List ByteArray)} {i:Nat} {s:dU} (h:(gE P l).seats[i]? =some s):s.k.now=0∧(s.st=1∨s.st=3):=by
 unfold gE at h;rw [List.getElem?_map] at h;obtain ⟨j,_,rfl⟩:=Option.map_eq_some_iff.1 h;unfold jP jC;have hb:∀ (m:Int) (im:List ByteArray) (o n:List cS),(eK m im o n 0).now=0:=fun m im o n=> (iH m im o n 0).1;split
 · exact ⟨hb _ _ _ _,.inl rfl⟩
 · split
   · exact ⟨hb _ _ _ _,.inr rfl⟩
   · split
     · exact ⟨by show (reset _ _).now=0;rw [xJ];exact hb _ _ _ _,.inl rfl⟩
     · exact ⟨hb _ _ _ _,.inl rfl⟩
theorem LHyperGrants (vp vw vc im:Value) (P:Pl.fH) (l:List (List ByteArray)) (n part:Int) (w:World) (h:iF w vp vw vc P) (hfr:P.fr≤9223372036854775807) (him:tP w im l) (hl:∀ r ∈ l,r.length≤8796093022207) (hT:Tab w):
 Calls Tryz.prog 7 #[.agg #[vp,.int .i64 P.fr,vw,vc,im,.int .i64 n,.int .i64 part]] w (aN (.bool true) w):=by
 obtain ⟨aw,cw,rfl⟩:=h.wins;obtain ⟨ai,ci,rfl,_⟩:=id him;obtain ⟨Wn,hW0,hb0,HI⟩:=nb1 (W:=w) (.cells #[vp,.int .i64 P.fr,.slice aw P.ws.length cw,vc,.slice ai l.length ci,.int .i64 n,.int .i64 part] 85) rfl;have HB:=hU hb0;obtain ⟨b3,hab3,hbz3⟩:=nbz HB;have hb3:=nlt HI hab3;obtain ⟨W3,hW3,hba3,HZ3⟩:=nb1 (W:=Wn) (.cells #[.slice none 0 0,.int .i64 0,.slice none 0 0,.slice none 0 0] 53) hab3;have HT:=hU (fun W (h:Below w.heap.size w W)=> hT.below h);have HPL:=hU (fun W (hb:Below w.heap.size w W)=> h.below hb);have HIM:=hU (fun W (hb:Below w.heap.size w W)=> him.below hb);have HBE:=hU (fun W (hb:Below w.heap.size w W)=> qNg vp (.slice aw P.ws.length cw) vc (.slice ai l.length ci) P l W (h.below hb) hfr (him.below hb) hl);have HO3:=hU (onesPcG h);clear hb0 h him hl hT;go_in
 repeat' (first
  |(rw [hW0];clear hW0)
  |(rw [hW3,hab3];clear hW3)
  |(refine aE (t:=53) (v:=.agg (eV vp (.slice aw P.ws.length cw) vc P.fr)) rfl rfl rfl (cB zO HI.out (by unfold eV;simp) rfl) ?_)
  |(refine sN 53 (.agg (eV vp (.slice aw P.ws.length cw) vc P.fr)) 0 (eV vp (.slice aw P.ws.length cw) vc P.fr) zO.size HZ3.out HO3.out fun Wn hp=> ?_
    have hbb:=Below.put hba3 hp (Nat.le_of_eq hab3);replace HI:=nB hbb HI;replace HB:=nW hbb HB;have HP:=pA hp;clear hbb hp hba3 HZ3 HO3;have f4:Wn.cell? ⟨w.heap.size,4,none⟩=some (.slice ai l.length ci):=aC HI.out 4;have f5:Wn.cell? ⟨w.heap.size,5,none⟩=some (.int .i64 n):=aC HI.out 5;have f6:Wn.cell? ⟨w.heap.size,6,none⟩=some (.int .i64 part):=aC HI.out 6)
  |go_values|go_skip|go_guarded|refine wg ?_|go_step|go_upon)
 clear f4 f5 f6 HI;refine (qVa _ (HT.out _ HB.out)).mono ?_;rintro er Wn ⟨rfl,hb⟩;replace HP:=nB hb HP;replace HB:=nW hb HB;clear hb;dsimp only;refine sg ?_;intros;refine (HFew (.slice ai l.length ci) l _ (HIM.out _ HB.out)).mono ?_;rintro er Wx ⟨rfl,rfl⟩;obtain ⟨sm,hsm⟩:∃ sm,sW l=sm:=⟨_,rfl⟩
 rw [hsm];dsimp only;repeat' (first|(refine aE (t:=53) (v:=.agg (eV vp (.slice aw P.ws.length cw) vc P.fr)) rfl rfl rfl (aD zO HP.out rfl) ?_)|go_values|go_skip|go_guarded|refine wg ?_|go_step|go_upon)
 refine (HBE.out _ HB.out).mono ?_;rintro er Wn hg;obtain ⟨c,ck,rfl,hcs,hon,hb,hgo⟩:=hg.cells;clear hg HBE HIM;replace HP:=nB hb HP;replace HB:=nW hb HB;have HCS:=hU hcs;have HON:=hU hon;have HGO:=hU hgo;clear hb hcs hon hgo;obtain ⟨b5,hab5,hbz5⟩:=nbz HB;have hb5:=nlt HP hab5;obtain ⟨Wo,hWo⟩:∃ Wo,Wo=Wn:=⟨_,rfl⟩
 rw [← hWo] at HGO;have HR:Hid (Below Wo.heap.size Wo Wn):=hU (by rw [hWo];exact Below.refl _ _);clear hWo;obtain ⟨W5,hW5,hba5,HZ5⟩:=nb1 (W:=Wn) (.cells zSy 61) hab5;dsimp only;obtain ⟨ap,cp,hvp,_,_⟩:=(HPL.out w (Below.refl _ _)).pa.shape;rw [show (parts P).length=P.ps.length from List.length_map _] at hvp;subst hvp
 have hcase:sm=false∨sm=true∧ck ≠ 0∨sm=true∧ck=0∧n<0∨sm=true∧ck=0∧¬ n<0∧¬ P.ws.length=1∨sm=true∧ck=0∧¬ n<0∧P.ws.length=1∧part<0∨sm=true∧ck=0∧¬ n<0∧P.ws.length=1∧¬ part<0∧(P.ps.length:Int)≤part∨sm=true∧ck=0∧¬ n<0∧P.ws.length=1∧¬ part<0∧¬ (P.ps.length:Int)≤part:=by
  cases sm
  · exact .inl rfl
  · by_cases h1:ck=0
    · by_cases h2:n<0
      · exact .inr (.inr (.inl ⟨rfl,h1,h2⟩))
      · by_cases h3:P.ws.length=1
        · by_cases h4:part<0
          · exact .inr (.inr (.inr (.inr (.inl ⟨rfl,h1,h2,h3,h4⟩))))
          · by_cases h5:(P.ps.length:Int)≤part
            · exact .inr (.inr (.inr (.inr (.inr (.inl ⟨rfl,h1,h2,h3,h4,h5⟩)))))
            · exact .inr (.inr (.inr (.inr (.inr (.inr ⟨rfl,h1,h2,h3,h4,h5⟩)))))
        · exact .inr (.inr (.inr (.inl ⟨rfl,h1,h2,h3⟩)))
    · exact .inr (.inl ⟨rfl,h1⟩)
 rcases hcase with rfl|⟨rfl,hck⟩|⟨rfl,rfl,hn⟩|⟨rfl,rfl,hn,hw⟩|⟨rfl,rfl,hn,hw,hp0⟩|⟨rfl,rfl,hn,hw,hp0,hp1⟩|⟨rfl,rfl,hn,hw,hp0,hp1⟩
 case' inr.inl=> have e1:(ck !=0)=true:=by simpa using hck
 case' inr.inr.inl=> have e2:decide (n<0)=true:=by simpa using hn
 case' inr.inr.inr.inl=>
  have e2:decide (n<0)=false:=by simpa using hn
  have e3:((P.ws.length:Int) !=1)=true:=by simp only [bne_iff_ne,ne_eq];omega
 case' inr.inr.inr.inr.inl=>
  have e2:decide (n<0)=false:=by simpa using hn
  have e3:((P.ws.length:Int) !=1)=false:=by rw [hw];rfl
  have e4:decide (part<0)=true:=by simpa using hp0
 case' inr.inr.inr.inr.inr.inl=>
  have e2:decide (n<0)=false:=by simpa using hn
  have e3:((P.ws.length:Int) !=1)=false:=by rw [hw];rfl
  have e4:decide (part<0)=false:=by simpa using hp0
  have e5:decide ((P.ps.length:Int)≤part)=true:=by simpa using hp1
 case' inr.inr.inr.inr.inr.inr=>
  have e2:decide (n<0)=false:=by simpa using hn
  have e3:((P.ws.length:Int) !=1)=false:=by rw [hw];rfl
  have e4:decide (part<0)=false:=by simpa using hp0
  have e5:decide ((P.ps.length:Int)≤part)=false:=by simp;omega
  have HWL:=hU hw;clear hw
 all_goals repeat' (first
  |go_skip
  |(rw [hW5,hab5];clear hW5)
  |(refine aK (t:=61) (v:=.agg c) (off:=0) (new:=c) rfl rfl rfl rfl dZ.size HZ5.out HCS.out (show 0 + 11≤11 by decide) HON.out (eD (by rw [show (Value.agg c).cells.size=11 from HCS.out];rfl)) ?_;intro Wn hp
    have hbb:=Below.put hba5 hp (Nat.le_of_eq hab5);replace HP:=nB hbb HP;replace HR:=hU (HR.out.trans (hbb.mono HR.out.size));replace HB:=nW hbb HB;have HQ:=pA hp;clear hbb hp hba5 HZ5 HON HCS;have c2:Wn.cell? ⟨b3,2,none⟩=some (.slice aw P.ws.length cw):=aC HP.out 2;have c0:Wn.cell? ⟨b3,0,none⟩=some (.slice ap P.ps.length cp):=aC HP.out 0)
  |go_values|go_skip|go_guarded|refine wg ?_|go_step|go_upon)
 rotate_left 1
 · go_ret;exact cF rfl HB.out
 · go_ret;exact cF rfl HB.out
 · go_ret;exact cF rfl HB.out
 · go_ret;exact cF rfl HB.out
 · go_ret;exact cF rfl HB.out
 · go_ret;exact cF rfl HB.out
 clear e2 e3 e4 e5;obtain ⟨hck,y,rfl,hs,hv⟩:=HGO.out rfl;obtain ⟨hgd,hwd⟩:=qN hck (qOx hsm);obtain ⟨i,rfl⟩:∃ i:Nat,part=i:=⟨part.toNat,by omega⟩
 have hil:i<P.ps.length:=by omega
 obtain ⟨s0,hs0⟩:∃ s,(gE P l).seats[i]? =some s:=⟨_,List.getElem?_eq_getElem (by rw [hgd.sl];exact hil)⟩
 have hz:=begin_z hs0;obtain ⟨m0,hm0⟩:∃ m0,gE P l=m0:=⟨_,rfl⟩
 clear hp0;have hp0:m0.p=P:=by rw [← hm0];rfl
 have hn0:m0.now=0:=by rw [← hm0];rfl
 rw [hm0] at HQ hs hgd hwd hs0;obtain ⟨f,hf⟩:∃ f:Nat,(f:Int)=P.fr:=⟨P.fr.toNat,by have:=(Pl.cQ hck).2.2.2.2.2.1;omega⟩
 obtain ⟨k,hk⟩:∃ k,k=(most 300 n).toNat:=⟨_,rfl⟩
 have hk3:k≤300:=by rw [hk];unfold most;split <;> omega
 have HMX:Hid (most 300 n=(k:Int)):=hU (by rw [hk];unfold most;split <;> omega);have HY:=hU (hs.below HR.out);have HG:=hU (fun j (hj:j≤k)=> hgd.run hwd (k:=j) (by omega));have HPP:=hU (fun j=> (qPm j m0).trans hp0);have HNN:Hid (∀ j:Nat,(jO j m0).now=j):=hU (fun j=> by rw [mrun_now,hn0];omega);have HPY:Hid (∀ W,Below w.heap.size w W→iF W y.vp y.vw y.vc P):=hU (by rw [hv.1,hv.2.1,hv.2.2.1];exact HPL.out);have HST:=hU (fun j (hj:j<k) (y':YL) W hy ht=> qYn y' (jO j m0) (0 + 15 * j) W hy (HG.out j (by omega)).1 (HG.out j (by omega)).2 (by omega) ht)
 have HGS:Hid (∀ j s r s2,j<k→(jO j m0).seats[i]? =some s→GrI P i f j r s→(jO (j + 1) m0).seats[i]? =some s2→GrI P i f (j + 1) (r||s2.st !=1) s2):=hU (fun j s r s2 hj h1 h2 h3=> by
  have hgj:=(HG.out j (by omega)).1;have hpj:=HPP.out j;rw [xG] at h3;rw [← hpj] at h2 ⊢;exact gr_step hgj (by omega) (by rw [hpj];exact HWL.out) (by rw [hpj];exact hf) (HNN.out j) h1 h2 h3)
 have HSE:Hid (∀ j,j≤k→∃ s,(jO j m0).seats[i]? =some s):=hU (fun j hj=> ⟨_,List.getElem?_eq_getElem (by rw [(HG.out j hj).1.sl,HPP.out j];exact hil)⟩);have HGT:=hU (fun W (hb:Below w.heap.size w W)=> RGranted (.slice ap P.ps.length cp) (.slice aw P.ws.length cw) vc P 0 (i:Int) f k W (HPL.out W hb).pl hck (by rw [HWL.out];decide) hf (by omega));have hgz:GrI P i f 0 false s0:=⟨by rw [hz.1];exact Int.natCast_nonneg _,fun _=> ⟨by rw [hz.1];unfold grI;simp [frI],.inr rfl⟩,fun _=> hz.2⟩
 have HIL:=hU hil;have HLE:Hid (∀ j,j≤k→(jO j m0).seats.length=P.ps.length):=hU (fun j hj=> by rw [(HG.out j hj).1.sl,HPP.out j]);clear hck hs hgd hwd hz hm0 hp0 hn0 hf hk hn hp1 hil HWL HGO HR hsm;refine sg ?_;intros;go_loopw [11,12] (fun rv iv wr=> GrL w b3 b5 (eV (.slice ap P.ps.length cp) (.slice aw P.ws.length cw) vc P.fr) y m0 i f k P rv iv wr) (fun _ iv _=> k - (intOf iv).toNat)
 case atStart=> exact ⟨0,y,s0,false,Nat.zero_le _,rfl,rfl,HP,HQ,HY,HB,hU ⟨rfl,rfl,rfl⟩,hU hs0,hU hgz⟩
 case round=>
  clear HP HQ HY HB hs0 hgz;obtain ⟨j,y1,s,r,hj,rfl,rfl,HP,HQ,HY,HB,HV,HS,HGI⟩:=hrel;have hb5w:=hlt HQ.out;refine sg ?_;intros;refine (qYl n _).mono ?_;rintro er Wx ⟨rfl,rfl⟩;rw [HMX.out];dsimp only;by_cases hjk:j<k
  · have e1:decide ((j:Int)<(k:Int))=true:=by simp;omega
    have e1n:decide (j<k)=true:=by simp;omega
    repeat' (first|(refine aE (t:=61) (v:=.agg (aS y1 (jO j m0))) rfl rfl rfl (aD dZ HQ.out rfl) ?_)|go_values|go_skip|go_guarded|refine wg ?_|go_step|go_upon)
    refine (HST.out j hjk y1 _ HY.out (HT.out _ HB.out)).mono ?_;rintro er Wn ⟨y2,rfl,hs2,hv2,hb⟩;rw [← xG] at hs2 ⊢;obtain ⟨s2,hS2⟩:=HSE.out (j + 1) hjk;have HGI2:=hU (HGS.out j s r s2 hjk HS.out HGI.out hS2);have HLN:=HLE.out (j + 1) hjk;have HP2:=HPP.out (j + 1);obtain ⟨m2,hm2⟩:∃ m,jO (j + 1) m0=m:=⟨_,rfl⟩
    rw [hm2] at hs2 hS2 HLN HP2 ⊢;replace HP:=nB hb HP;replace HQ:=nB hb HQ;replace HB:=nW hb HB;replace HY:=hU hs2;have HON:=hU (nT hs2);have HV2:Hid (y2.vp=y.vp∧y2.vw=y.vw∧y2.vc=y.vc):=hU ⟨hv2.1.trans HV.out.1,hv2.2.1.trans HV.out.2.1,hv2.2.2.1.trans HV.out.2.2⟩;have HPM:Hid (∀ W,Below w.heap.size w W→iF W y2.vp y2.vw y2.vc m2.p):=hU (by rw [HV2.out.1,HV2.out.2.1,HV2.out.2.2,HP2];exact HPY.out);clear hb hs2 hv2 HV HS HGI HP2;dsimp only;cases r
    case' false=>
     have hln2:y2.ls.length=m2.seats.length:=HY.out.len.1
    all_goals repeat' (first
     |go_skip
     |(refine sN 61 (.agg (aS y2 m2)) 0 (aS y2 m2) dZ.size HQ.out HON.out fun Wn hp=> ?_
       have hB:=Below.put HB.out hp (by omega);replace HY:=hU (HY.out.put HQ.out hp (HPM.out _ hB) iX (by decide) (by decide) (by decide));replace HP:=pT hp HQ HP;replace HQ:=pA hp;replace HB:=hU hB;clear hB hp HON;refine Kp.out ?_)
     |go_values|go_skip|go_guarded|refine wg ?_|go_step|go_upon)
    all_goals refine ⟨?_⟩
    case' false=>
     obtain ⟨x,hx,hxs,_⟩:=HY.out.seat hS2;have hel:=HY.out.se.1;obtain ⟨a8,c8,hse,_,_⟩:=hel.shape;rw [hse] at hel;rw [hln2,HLN] at hse;obtain ⟨g,off,hga,hgl,hc⟩:=hel.elem.2.2.2 i x hx;subst hga;have HSE:=hU hse;have HCK:=hU (fun W hb j u (hj:(aY x.y x.s)[j]? =some u)=> hc W hb j u hj);rw [hxs] at HCK;clear hx hxs hel hgl hc hse;have c8':Wn.cell? ⟨b5,8,none⟩=some (.slice (some ⟨g,off,none⟩) P.ps.length c8):=(aC HQ.out 8).trans (congrArg some HSE.out);have d17:Wn.cell? ⟨g,off + i * 19 + 17,none⟩=some (.int .i64 s2.st):=HCK.out Wn (Below.refl _ _) 17 _ rfl;have i0:(0:Int)≤(i:Int):=by omega
     have i1:(i:Int)<(P.ps.length:Int):=by have:=HIL.out;omega
     have i2:i<P.ps.length:=HIL.out
    all_goals repeat' (first|go_skip|go_values|go_skip|go_guarded|refine wg ?_|go_step|go_upon)
    · exact ⟨⟨j + 1,y2,s2,_,by omega,by go_num,rfl,HP,hU (by rw [hm2];exact HQ.out),hU (by rw [hm2];exact HY.out),HB,HV2,hU (by rw [hm2];exact hS2),HGI2⟩,by simp [intOf];omega⟩
    · exact ⟨⟨j + 1,y2,s2,_,by omega,by go_num,rfl,HP,hU (by rw [hm2];exact HQ.out),hU (by rw [hm2];exact HY.out),HB,HV2,hU (by rw [hm2];exact hS2),HGI2⟩,by simp [intOf];omega⟩
  · obtain rfl:j=k:=by omega
    have e1:decide ((j:Int)<(j:Int))=false:=by simp
    have hS2:=HS.out;have HLN:=HLE.out j (Nat.le_refl _);have HN:=HNN.out j;obtain ⟨m2,hm2⟩:∃ m,jO j m0=m:=⟨_,rfl⟩
    rw [hm2] at HQ HY hS2 HLN HN;have hln2:y1.ls.length=m2.seats.length:=HY.out.len.1;obtain ⟨x,hx,hxs,_⟩:=HY.out.seat hS2;have hel:=HY.out.se.1;obtain ⟨a8,c8,hse,_,_⟩:=hel.shape;rw [hse] at hel;rw [hln2,HLN] at hse;obtain ⟨g,off,hga,hgl,hc⟩:=hel.elem.2.2.2 i x hx;subst hga;have HSE:=hU hse;have HCK:=hU (fun W hb j u (hj:(aY x.y x.s)[j]? =some u)=> hc W hb j u hj);rw [hxs] at HCK;clear hx hxs hel hgl hc hse;have c8':wr.cell? ⟨b5,8,none⟩=some (.slice (some ⟨g,off,none⟩) P.ps.length c8):=(aC HQ.out 8).trans (congrArg some HSE.out);have c5':wr.cell? ⟨b5,5,none⟩=some (.int .u64 (j:Int)):=by rw [← HN];exact aC HQ.out 5
    have d7:wr.cell? ⟨g,off + i * 19 + 7,none⟩=some (.int .u64 s.k.now):=HCK.out wr (Below.refl _ _) 7 _ rfl;have i0:(0:Int)≤(i:Int):=by omega
    have i1:(i:Int)<(P.ps.length:Int):=by have:=HIL.out;omega
    have i2:i<P.ps.length:=HIL.out
    repeat' (first
     |(refine aE (t:=53) (v:=.agg (eV (.slice ap P.ps.length cp) (.slice aw P.ws.length cw) vc P.fr)) rfl rfl rfl (aD zO HP.out rfl) ?_)
     |go_values|go_skip|go_guarded|refine wg ?_|go_step|go_upon)
    refine (HGT.out _ HB.out).mono ?_;rintro er Wn ⟨rfl,hb⟩;replace HB:=nW hb HB;clear hb;dsimp only;have hle:=HGI.out.le;have heq:=HGI.out.eq;generalize grI P 0 (i:Int) f j=gr at *;generalize s.k.now=nw at *;have q1:decide (nw≤(gr:Int))=true:=by simpa using hle
    cases r
    case' false=>
     have q2:(nw==(gr:Int))=true:=by simpa using (heq rfl).1
    all_goals clear hle heq
    all_goals repeat' (first|go_skip|go_values|go_skip|go_guarded|refine wg ?_|go_step|go_upon)
    all_goals go_ret
    all_goals exact cF rfl HB.out
end Hy
end Go.Proofs.YtfncknignkndiaaGreatDoor
namespace Go.Proofs.YtfncknignkndiaaGreatDoor.lawHyperGrants
open Go.ChangeShapes Go.WideShapes Go.ChangeAt Go.RowKit
theorem contract (H:Type) (enc:TypeId × Value→H) (W:World) (base:Nat) (args:Array Value) (ds gs:List (DataW H)) (before:List MemPlace)
 (hval:∀ (j:Nat) t v,Tryz.f7.params[j]? =some t→args[j]? =some v→Value.okWide Tryz.prog W .any base t v)
 (hW:DataW.Whole enc Tryz.prog Tryz.f7.params.toList Rows.hyperGrantsSpec.vars false W args.toList ds gs before) (hL:laidMetH Tryz.prog Rows.hyperGrantsRow.laid W)
 (hr:(DataW.weightsEach Tryz.prog (Tryz.f7.params.toList ++ (OpenSpec.ofChange Rows.hyperGrantsSpec).bare.plain.varTypes Tryz.prog) (ds ++ gs)).all (· ≤reachBytes)=true):
 Calls Tryz.prog 7 args W fun e W'=> ∃ v,e=.returned v∧Rows.hyperGrantsSpec.post enc Tryz.prog Tryz.f7 false true false false W args v W':=by
 have hW':=hW;obtain ⟨p,q,hA0,hV,rfl,hfz,hnd⟩:=hW;have hA:DataW.TrodAll enc Tryz.prog W 0 (fun _=> true) true Tryz.f7.params.toList args.toList ds p:=hA0;rw [Tryz.params7] at hA hval;obtain ⟨v0,d0,rfl,rfl,h0⟩:=trodAll_one hA;obtain ⟨rfl,rfl⟩:=trodVars_none hV;obtain ⟨vp,vw,vc,im,P,l,n,part,rfl,hpl,hfr,him,hwl,w0x,w1x⟩:=Hy.open_inHyperGrants (hval 0 85 v0 rfl rfl) h0;have hsl:=Hy.qYc (j:=0) hr (by kernel_rfl) rfl hwl;refine (Hy.LHyperGrants vp vw vc im P l n part W hpl hfr him hsl (xAo hL)).mono fun e W' ⟨he,hb⟩=> ?_;subst he;exact ⟨_,rfl,law_post (tb:=4) hW' rfl rfl rfl rfl (by kernel_rfl) Tryz.underlying4 qYd (by rw [Tryz.params7];decide +kernel) hb⟩
abbrev qQt:Array Value:=#[.agg #[.slice none 0 0,.int .i64 0,.slice none 0 0,.slice none 0 0,.slice none 0 0,.int .i64 0,.int .i64 0]]
theorem laid_met (os:Os):laidMet Tryz.prog Rows.hyperGrantsRow.laid ((laidWorld os).forCall (fun _ _=> 0) ⟨#[],qQt,[]⟩).memory:=
 laidMet_of_run' 8 (by kernel_rfl) (by kernel_rfl)
theorem reads (os:Os) {H:Type} (enc:TypeId × Value→H):∃ places,DataW.whole enc Tryz.prog ((laidWorld os).forCall (fun _ _=> 0) ⟨#[],qQt,[]⟩).memory Tryz.f7.params.toList Rows.hyperGrantsSpec.vars false qQt.toList 8=some ([.agg [.agg [.nil,.lit (.int .i64 0),.nil,.nil],.nil,.lit (.int .i64 0),.lit (.int .i64 0)]],[],places):=
 ⟨[],by kernel_rfl⟩
theorem lifted (os:Os) (started:os.Started) (H:Type) (enc:TypeId × Value→H) (F:Stop.Interp):
 ReturnsInHanded {} Tryz.checked os 7 .any ((OpenSpec.ofChange Rows.hyperGrantsSpec).preRow enc Tryz.prog Tryz.f7 Rows.hyperGrantsRow.domain false Rows.hyperGrantsRow.laid) (((OpenSpec.ofChange Rows.hyperGrantsSpec).at F).post enc Tryz.prog Tryz.f7 false true false false):=by
 obtain ⟨places,hx⟩:=reads os enc
 refine returnsInHanded_of_row (C:=Tryz.checked) (s:=OpenSpec.ofChange Rows.hyperGrantsSpec) own started (by kernel_rfl) Tryz.func7
  (witness_row_at (enc:=enc) (C:=Tryz.checked) false (laidWorld os) qQt rfl (by kernel_rfl) (by kernel_rfl) (by kernel_rfl)
    (OpenSpec.preRow_of_cond 8 hx (by kernel_rfl) (fun k hk=> by cases hk) (by kernel_rfl) (laid_met os))) ?_
 intro W base args ds gs before hval hW _ hcond hr hL _ _;exact contract H enc W base args ds gs before hval hW hL hr
theorem j0:(Rows.hyperGrantsRow.inPlace==Tryz.pinned.checked.prog.inPlace 7)=true:=by kernel_rfl
theorem j1:(Rows.hyperGrantsRow.unfollowed==Tryz.pinned.checked.prog.unfollowed 7)=true:=by kernel_rfl
theorem j2:(Rows.hyperGrantsRow.recurses==Tryz.pinned.checked.prog.recurses 7)=true:=by kernel_rfl
theorem j3:(Rows.hyperGrantsRow.named==Tryz.pinned.checked.prog.varsNamed 7)=true:=by kernel_rfl
theorem facts:joinedFacts Tryz.pinned.checked.prog 7 Tryz.f7 (OpenSpec.ofChange Rows.hyperGrantsSpec).bare Rows.hyperGrantsRow=true:=by
 unfold joinedFacts;rw [j0,j1,j2,j3];kernel_rfl
theorem said:Rows.HyperGrantsSaid:=
 OpenClaim.holds_of_cond 7 Tryz.f7 rfl rfl rfl rfl rfl rfl rfl ⟨rfl,rfl,rfl,rfl,rfl⟩ rfl rfl rfl rfl rfl (by kernel_rfl) Tryz.func7 facts
  (of_decide_eq_true (by kernel_rfl)) (by unfold Func.isWrapper;first|(rw [if_pos (by decide +kernel)];kernel_rfl)|(rw [if_neg (by decide +kernel)];exact ⟨rfl,rfl⟩))
  (fun os started H enc _ F=> by rw [OpenClaim.pre_eq_preRow];exact lifted os started H enc F)
theorem plain (f:FuncId) (fn:Func) (hf:Tryz.pinned.checked.prog.funcNamed "transom/transomlaw16.HyperGrants" =some f) (hfn:Tryz.pinned.checked.prog.funcs[f]? =some fn):
 false=Tryz.pinned.checked.prog.looks []∧∀ (j:Nat) t,fn.params[j]? =some t→Tryz.pinned.checked.prog.wantsStandIn t=false:=by
 obtain rfl:f=7:=Option.some.inj ((show Tryz.prog.funcNamed "transom/transomlaw16.HyperGrants" =some 7 by kernel_rfl).symm.trans hf)|>.symm
 obtain rfl:fn=Tryz.f7:=(Option.some.inj (Tryz.func7.symm.trans hfn)).symm;refine ⟨qYe,fun j t ht=> ?_⟩;have hm:=Array.mem_of_getElem? ht;rw [Tryz.params7] at hm;have hall:∀ t ∈ (#[85]:Array TypeId),Tryz.prog.wantsStandIn t=false:=by decide +kernel
 exact hall t hm
theorem card:Rows.HyperGrantsCardSaid:=
 Claim7.holds_tied_plain_at .later [] _ _ _ _ said (fun _ h=> by cases h) (by kernel_rfl) (fun _ h=> by cases h) hyperGrants_row_tie rfl ⟨rfl,rfl⟩ (by kernel_rfl) rfl plain (by kernel_rfl)
#print axioms card
end Go.Proofs.YtfncknignkndiaaGreatDoor.lawHyperGrants
