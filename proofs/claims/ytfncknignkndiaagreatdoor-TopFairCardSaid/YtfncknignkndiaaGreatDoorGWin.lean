/- window.cycle: a time's cycle of the frame. Conditions: as told. -/
import Derived.Test.YtfncknignkndiaaGreatDoorGPl
import Derived.Test.YtfncknignkndiaaGreatDoorGWork
set_option linter.unusedVariables false
set_option maxRecDepth 100000
set_option maxHeartbeats 8000000
set_option linter.unusedSimpArgs false
namespace Go.Proofs.YtfncknignkndiaaGreatDoor
open Tryz
open Go.RowKit KR
namespace Hy
def eV (vp vw vc:Value) (fr:Int):Array Value:=#[vp,.int .i64 fr,vw,vc]
theorem qOf (vp vw vc:Value) (fr t:Int) (w:World) (h1:1≤fr) (h2:fr≤4096) (t0:0≤t) (t1:t≤18446744073709551615):
 Calls prog 107 #[.agg #[vp,.int .i64 fr,vw,vc],.int .u64 t] w (aN (.int .i64 (t % fr)) w):=by
 have hm:max fr 1=fr:=by omega
 have hw:IntKind.u64.wrap fr=fr:=by rw [IntKind.wrap_u64];omega
 have hr0:0≤t % fr:=Int.emod_nonneg _ (by omega);have hr1:t % fr<fr:=Int.emod_lt_of_pos _ (by omega);have hwi:IntKind.i64.wrap (t % fr)=t % fr:=by rw [IntKind.wrap_i64];omega
 have hne:¬ fr=0:=by omega
 have hne2:(fr==0)=false:=by simp [hne]
 go_in;refine sg ?_;intros;go_ret;exact cF rfl bel
end Hy
attribute [local go_sem] Oper.semAt_some
namespace Hy
structure Win where
 part:Int
 at_:Int
 len:Int
 p0:0≤part
 p1:part≤4
 a0:0≤at_
 l0:0≤len
 al:at_ + len≤4096
def Win.cells (x:Win):Array Value:=#[.int .i64 x.part,.int .i64 x.at_,.int .i64 x.len]
def qCg (r:List Int):Prop:=0≤Pl.g r 0∧Pl.g r 0≤4∧0≤Pl.g r 1∧0≤Pl.g r 2∧Pl.g r 1 + Pl.g r 2≤4096
instance (r:List Int):Decidable (qCg r):=by unfold qCg;infer_instance
def sS (r:List Int):Win:=if h:qCg r then ⟨Pl.g r 0,Pl.g r 1,Pl.g r 2,h.1,h.2.1,h.2.2.1,h.2.2.2.1,h.2.2.2.2⟩ else ⟨0,0,0,by decide,by decide,by decide,by decide,by decide⟩
theorem qBo {r:List Int} (h:qCg r):(sS r).part=Pl.g r 0∧(sS r).at_=Pl.g r 1∧(sS r).len=Pl.g r 2:=by
 unfold sS;rw [dif_pos h];exact ⟨rfl,rfl,rfl⟩
theorem qHc {r:List Int} (h:qCg r):(sS r).cells=#[.int .i64 (Pl.g r 0),.int .i64 (Pl.g r 1),.int .i64 (Pl.g r 2)]:=by
 obtain ⟨h1,h2,h3⟩:=qBo h;unfold Win.cells;rw [h1,h2,h3]
def gV (P:Pl.fH) (s:Nat):List Win:=(P.ws.getD s []).map sS
theorem qHd {np fr:Int}:∀ {ws:List (List (List Int))},Pl.lF np fr ws=0→∀ l ∈ ws,Pl.pY np fr l 0=0
 |[],_,_,h=> nomatch h
 |a::ws,h,l,hl=> by
  unfold Pl.lF at h;split at h
  · next h1=>
    rcases List.mem_cons.1 hl with rfl|hl
    · exact h1
    · exact qHd h l hl
  · next h1=> exact absurd h h1
theorem qKf {np fr:Int}:∀ {l:List (List Int)} {b:Int},Pl.pY np fr l b=0→∀ r ∈ l,∃ b',Pl.oI np fr r b'=0
 |[],_,_,_,h=> nomatch h
 |a::l,b,h,r,hr=> by
  unfold Pl.pY at h;split at h
  · next h1=>
    rcases List.mem_cons.1 hr with rfl|hr
    · exact ⟨b,h1⟩
    · exact qKf h r hr
  · next h1=> exact absurd h h1
theorem tL {P:Pl.fH} (h:Pl.check P=0) (s:Nat):∀ r ∈ P.ws.getD s [],0≤Pl.g r 0∧Pl.g r 0<P.ps.length∧0≤Pl.g r 1∧2<Pl.g r 2∧Pl.g r 1 + Pl.g r 2≤P.fr:=by
 intro r hr;have hw:=(Pl.cQ h).2.2.2.2.2.2.2.2.2.1
 have hm:P.ws.getD s [] ∈ P.ws∨P.ws.getD s []=[]:=by
  rw [List.getD_eq_getElem?_getD];cases hx:P.ws[s]? with
  |none=> exact .inr rfl
  |some l=> exact .inl (List.mem_of_getElem? hx)
 rcases hm with hm|hm
 · obtain ⟨b',hb⟩:=qKf (qHd hw _ hm) r hr;obtain ⟨h1,h2,h3,h4,h5,_⟩:=Pl.qMy hb;exact ⟨h1,h2,h3,h4,h5⟩
 · rw [hm] at hr;cases hr
theorem qEz {P:Pl.fH} (h:Pl.check P=0) (s:Nat):∀ r ∈ P.ws.getD s [],qCg r:=by
 intro r hr;obtain ⟨h1,h2,h3,h4,h5⟩:=tL h s r hr;have h6:=(Pl.cQ h).2.1;have h7:=(Pl.cQ h).2.2.2.2.2.2.1;exact ⟨h1,by omega,h3,by omega,by omega⟩
def eU (K:Nat→Prop) (W W':World):Prop:=W.heap.size≤W'.heap.size∧∀ k o,K k→W.heap[k]? =some o→o.isCells=true→W'.heap[k]? =some o
theorem qM {K:Nat→Prop} {A B C:World} (h:eU K A B) (k:eU K B C):eU K A C:=⟨Nat.le_trans h.1 k.1,fun i o hi ho hc=> k.2 i o hi (h.2 i o hi ho hc) hc⟩
theorem qGe {K:Nat→Prop} (W:World) (l:Nat) (o o':Obj) (hl:W.heap[l]? =some o) (ho:o.isCells=false):eU K W (W.putObj l o'):=
 ⟨by simp,fun k c _ hc hcc=> by
   by_cases e:k=l
   · subst e;rw [hl] at hc;cases hc;rw [ho] at hcc;cases hcc
   · exact (World.putObj_heap_other e).trans hc⟩
theorem eU.refl (K:Nat→Prop) (W:World):eU K W W:=⟨Nat.le_refl _,fun _ _ _ h _=> h⟩
theorem eU.gI {K:Nat→Prop} {W W':World} (h:Below W.heap.size W W'):eU K W W':=⟨h.size,fun k o _ hc _=> (h.block k (Array.getElem?_eq_some_iff.1 hc).1).trans hc⟩
theorem eU.put {K:Nat→Prop} {W W':World} {g:Nat} {cs:Array Value} {T:TypeId} (h:Put g cs T W W') (hg:¬ K g):eU K W W':=
 ⟨Nat.le_of_eq h.size.symm,fun k o hk hc _=> (h.oth k (fun e=> hg (e ▸ hk))).trans hc⟩
theorem eU.cells {K:Nat→Prop} {W W':World} {k:Nat} {c:Array Value} {T:TypeId} (h:eU K W W') (hk:K k) (hc:W.heap[k]? =some (.cells c T (0,0))):W'.heap[k]? =some (.cells c T (0,0)):=h.2 k _ hk hc rfl
theorem eU.cell {K:Nat→Prop} {W W':World} {b o:Nat} {u:Value} (h:eU K W W') (hk:K b) (hc:W.cell? ⟨b,o,none⟩=some u):W'.cell? ⟨b,o,none⟩=some u:=by
 have hb:∃ c T f,W.heap[b]? =some (.cells c T f):=by
  unfold World.cell? at hc;cases hh:W.heap[b]? with
  |none=> simp [hh] at hc
  |some ob=>
   cases ob with
   |cells c T f=> exact ⟨c,T,f,rfl⟩
   |_=> simp [hh] at hc
 obtain ⟨c,T,f,hh⟩:=hb;have h2:=h.2 b _ hk hh rfl;unfold World.cell? at hc ⊢;rw [h2];rw [hh] at hc;exact hc
theorem sZ {K:Nat→Prop} {W W':World} {sz:Nat} {v:Value} {l:List (List Int)} (hr:iG W sz v l) (h:eU K W W') (hK:∀ k,k<W.heap.size→K k):iG W' sz v l:=by
 obtain ⟨a,c,rfl,hn,h'|⟨b,off,rfl,hlt,hc⟩⟩:=hr
 · exact ⟨a,c,rfl,hn,.inl h'⟩
 · exact ⟨_,c,rfl,hn,.inr ⟨b,off,rfl,Nat.lt_of_lt_of_le hlt h.1,fun i j hi hj=> h.cell (hK b hlt) (hc i j hi hj)⟩⟩
theorem qJb {K:Nat→Prop} {W W':World} {v:Value} {ws:List (List (List Int))} (hr:nF W v ws) (h:eU K W W') (hK:∀ k,k<W.heap.size→K k):nF W' v ws:=by
 obtain ⟨a,c,rfl,hn,h'|⟨b,off,rfl,hlt,hc⟩⟩:=hr
 · exact ⟨a,c,rfl,hn,.inl h'⟩
 · refine ⟨_,c,rfl,hn,.inr ⟨b,off,rfl,Nat.lt_of_lt_of_le hlt h.1,fun i hi=> ?_⟩⟩;obtain ⟨u,hu,hrr⟩:=hc i hi;exact ⟨u,h.cell (hK b hlt) hu,sZ hrr h hK⟩
theorem qIi {K:Nat→Prop} {W W':World} {v:Value} {P:Pl.fH} (hp:jX W v P) (h:eU K W W') (hK:∀ k,k<W.heap.size→K k):jX W' v P:=by
 obtain ⟨vp,vw,vc,rfl,h1,h2,h3⟩:=hp;exact ⟨vp,vw,vc,rfl,sZ h1 h hK,qJb h2 h hK,sZ h3 h hK⟩
abbrev WINT:=96
theorem qDt:Agg prog 96 3:=gD underlying96 rfl (by kernel_rfl)
theorem qKb (x:Win):∀ u ∈ x.cells.toList,u.oneCell'=true:=by
 intro u hu;simp [Win.cells] at hu;rcases hu with rfl|rfl|rfl <;> rfl
theorem qQm (l n:Nat) (Bp Bs:Nat) (K:Nat→Prop) (vp vw vc:Value) (P:Pl.fH) (s:Nat) (J Jx:List Win→World→Prop) (w0 W:World)
 (hY:∀ pre x W1,J pre W1→pre.length<(gV P s).length→YieldAt Fence.wide (n - 1) prog l #[.agg x.cells] W1 fun e W'=> (e=.returned (.bool true)∧J (pre ++ [x]) W'∧eU K W1 W')∨(e=.returned (.bool false)∧Jx (pre ++ [x]) W'))
 (hJ:AbidesFrom W.heap.size J) (hbp:W.heap[Bp]? =some (.cells (eV vp vw vc P.fr) 53 (0,0))) (hbs:W.heap[Bs]? =some (.cells #[.int .i64 s] 3 (0,0))) (hP:jX w0 (.agg (eV vp vw vc P.fr)) P) (hK:∀ k,k<w0.heap.size→K k) (hkw:eU K w0 W) (hKp:K Bp) (hck:Pl.check P=0) (hs:s<P.ws.length) (h0:J [] W):
 CallsIn Fence.wide n prog 152 #[.func (.yield l) #[] #[],.pointer (some ⟨Bp,0,none⟩),.pointer (some ⟨Bs,0,none⟩)] W fun e W'=> (∃ v,e=.returned v)∧
  ((∃ ys,ys=gV P s∧J ys W')∨(∃ pre,pre <+:gV P s∧Jx pre W')):=by
 have hfr:=(Pl.cQ hck).2.2.2.2.2.2.1;have hwz:=(Pl.cQ hck).2.2.2.1;have HCH:=hU (fH.Check _ P W (qIi hP hkw hK) (by omega));have p0:W.cell? ⟨Bp,0,none⟩=some vp:=aC hbp 0;have p1:W.cell? ⟨Bp,1,none⟩=some (.int .i64 P.fr):=aC hbp 1;have p2:W.cell? ⟨Bp,2,none⟩=some vw:=aC hbp 2;have p3:W.cell? ⟨Bp,3,none⟩=some vc:=aC hbp 3;rw [hck] at HCH;have HBP:=hU hbp;have HBS:=hU hbs;have HP:=hU hP;have HK:=hU hK;have HKW:=hU hkw;have HJ:=hU hJ;have HY:=hU hY;have HJ0:=hU h0;clear hbp hbs hP hK hkw hJ hY h0;unfold eV at HCH;refine callsIn_of_wp func152 rfl trivial ?_ rfl;simp only [ntmps152,List.size_toArray,List.length_cons,List.length_nil,Nat.reduceAdd,Nat.reduceSub,Array.replicate_succ,Array.replicate_zero,List.push_toArray,List.append_toArray,List.nil_append,List.cons_append];gi_wp2
 refine ⟨trivial,fun h=> by simp [Fence.wide] at h,((callsIn_wide (n:=n - 1)).2 HCH.out).mono ?_⟩;rintro e W1 ⟨rfl,hb1⟩;have HB1:=hU hb1;have HK1:=hU (qM HKW.out (eU.gI (K:=K) hb1));obtain ⟨vp',vw',vc',hv,hr1,hr2,hr3⟩:=HP.out;unfold eV at hv;injection hv with hv
 simp only [Array.mk.injEq,List.cons.injEq,and_true,true_and] at hv;obtain ⟨rfl,rfl,rfl⟩:=hv;obtain ⟨aw,cw,rfl,hwn,hwnil|⟨bw,ow,rfl,hbw,hwc⟩⟩:=hr2
 · rw [hwnil] at hs;exact absurd hs (Nat.not_lt_zero _)
 obtain ⟨u,hu0,hru⟩:=hwc s hs;have hu:=HK1.out.cell (HK.out bw hbw) hu0;have HRU:=hU hru;obtain ⟨ar,cr,rfl,hrn,_⟩:=hru;obtain ⟨row,hrow⟩:∃ row,P.ws.getD s []=row:=⟨_,rfl⟩
 have HROW:=hU hrow;rw [hrow] at hu hrn HRU;have q2:W1.cell? ⟨Bp,2,none⟩=some (.slice (some ⟨bw,ow,none⟩) P.ws.length cw):=aC ((hb1.block Bp (hlt HBP.out)).trans HBP.out) 2;have qs:W1.cell? ⟨Bs,0,none⟩=some (.int .i64 s):=aC ((hb1.block Bs (hlt HBS.out)).trans HBS.out) 0;have hs0:decide ((s:Int)<0)=false:=by simp
 have hs1:decide ((P.ws.length:Int)≤(s:Int))=false:=by simp;omega
 have hs2:decide (P.ws.length≤s)=false:=by simp;omega
 have hs3:(s:Int)<(P.ws.length:Int):=by omega
 have hs4:(0:Int)≤(s:Int):=by omega
 have HJ1:=hU (iQ HJ.out HJ0.out hb1);clear hu0 hwc hr1 hr3 hb1 p0 p1 p2 p3 hrow HCH;gi_wp2
 have hwl:(gV P s).length=row.length:=by unfold gV;rw [HROW.out,List.length_map]
 gi_loopw [26] (fun iv wr=> ∃ k:Nat,k≤row.length∧iv=.int .i64 k∧J ((gV P s).take k) wr∧eU K w0 wr) (fun iv _=> row.length - (intOf iv).toNat)
 case atStart=> exact ⟨0,Nat.zero_le _,rfl,HJ1.out,HK1.out⟩
 case round=>
  obtain ⟨k,hk,rfl,hJs,hKw⟩:=hrel;have HKW2:=hU hKw;have HJS:=hU hJs;clear hKw hJs;by_cases hkl:k<row.length
  · obtain ⟨a',c',hav,hn',hnil|⟨b3,off,hab3,hb3,aC⟩⟩:=HRU.out
    · rw [hnil] at hkl;exact absurd hkl (Nat.not_lt_zero _)
    injection hav with hav _ hcap
    subst hav;subst hcap;subst hab3;have c0:wr.cell? ⟨b3,off + k * 3,none⟩=some (.int .i64 (Pl.g (row.getD k []) 0)):=HKW2.out.cell (HK.out b3 hb3) (aC k 0 hkl (by decide));have c1:wr.cell? ⟨b3,off + k * 3 + 1,none⟩=some (.int .i64 (Pl.g (row.getD k []) 1)):=HKW2.out.cell (HK.out b3 hb3) (aC k 1 hkl (by decide));have c2:wr.cell? ⟨b3,off + k * 3 + 2,none⟩=some (.int .i64 (Pl.g (row.getD k []) 2)):=HKW2.out.cell (HK.out b3 hb3) (aC k 2 hkl (by decide));have hj0:(0:Int)≤(k:Int):=by omega
    have hj1:(k:Int)<(row.length:Int):=by omega
    have hj2:decide ((k:Int)<(row.length:Int))=true:=by simp [hkl]
    have htk:(gV P s).take (k + 1)=(gV P s).take k ++ [sS (row.getD k [])]:=by
     unfold gV;rw [HROW.out,List.take_add_one,List.getElem?_map,getD_some hkl];rfl
    have hpre:(gV P s).take (k + 1) <+:gV P s:=List.take_prefix _ _;have hln:((gV P s).take k).length<(gV P s).length:=by rw [List.length_take,hwl];omega
    have hyy:=HY.out ((gV P s).take k) (sS (row.getD k [])) (wr.alloc (.cells (sS (row.getD k [])).cells 96)) (iQ HJ.out HJS.out ((Below.refl _ _).alloc (Nat.le_refl _) _)) hln;have hka:eU K wr (wr.alloc (.cells (sS (row.getD k [])).cells 96)):=eU.gI ((Below.refl _ _).alloc (Nat.le_refl _) _);have hcl:=qHc (qEz hck s _ (by rw [HROW.out];exact List.mem_of_getElem? (getD_some (d:=[]) hkl)));rw [← htk,hcl] at hyy;rw [hcl] at hka;generalize row.getD k []=r at *;have HKA:=hU hka;have HPRE:=hU hpre;have HLT:=hU hkl;obtain ⟨fn,tmps,assign,body,hy,hR⟩:=hyy;clear aC htk hln hka hcl hpre;gi_wp2
    refine ⟨fun h=> by simp [Fence.wide] at h,hR.mono ?_⟩;rintro e W3 (⟨rfl,hJ3,hk3⟩|⟨rfl,hJx3⟩)
    · have HJ3:=hU hJ3;have HK3:=hU (qM HKA.out hk3);clear hJ3 hk3 hy;gi_wp2
      go_roundw
      case rel=> exact ⟨k + 1,by omega,by go_num,HJ3.out,qM HKW2.out HK3.out⟩
      case measure=> simp [intOf];omega
    · gi_wp2
      refine bodyPost_ret (results_none rfl _ _ _) rfl ?_;exact ⟨⟨_,rfl⟩,.inr ⟨_,HPRE.out,hJx3⟩⟩
  · have hkk:k=row.length:=by omega
    have hj2:decide ((k:Int)<(row.length:Int))=false:=by simp;omega
    gi_wp2
    go_end0
    refine ⟨⟨_,rfl⟩,.inl ⟨_,rfl,?_⟩⟩;have h:=HJS.out;rw [hkk,← hwl,List.take_length] at h;exact h
theorem qKr (n:Nat) (vp vw vc:Value) (fr s:Int) (w:World):
 CallsIn Fence.wide n prog 108 #[.agg #[vp,.int .i64 fr,vw,vc],.int .i64 s] w fun e w'=> e=.returned (.func (.func 152) #[] #[.pointer (some ⟨w.heap.size,0,none⟩),.pointer (some ⟨w.heap.size + 1,0,none⟩)])∧w'=(w.alloc (.cells #[vp,.int .i64 fr,vw,vc] 53)).alloc (.cells #[.int .i64 s] 3):=by
 refine callsIn_of_wp func108 rfl trivial ?_ rfl;simp only [ntmps108,List.size_toArray,List.length_cons,List.length_nil,Nat.reduceAdd,Nat.reduceSub,Array.replicate_succ,Array.replicate_zero,List.push_toArray,List.append_toArray,List.nil_append,List.cons_append];gi_wp2
 go_ret;exact ⟨rfl,rfl⟩
theorem qBq (n:Nat) (K:Nat→Prop) (vp vw vc:Value) (P:Pl.fH) (s:Nat) (Bp Bs:Nat) (w0 w:World) (hp:w.heap[Bp]? =some (.cells (eV vp vw vc P.fr) 53 (0,0))) (hb:w.heap[Bs]? =some (.cells #[.int .i64 s] 3 (0,0))) (hP:jX w0 (.agg (eV vp vw vc P.fr)) P) (hK:∀ k,k<w0.heap.size→K k) (hkw:Below w0.heap.size w0 w) (hKp:K Bp) (hck:Pl.check P=0) (hs:s<P.ws.length):
 SeqStopsK Fence.wide n prog 152 #[.pointer (some ⟨Bp,0,none⟩),.pointer (some ⟨Bs,0,none⟩)] (fun x:Win=> #[.agg x.cells]) (eU K) (fun ys=> ys=gV P s) (fun pre=> pre <+:gV P s) (gV P s).length w:=fun l J Jx W hW hJ hJx hY h0=> by
 exact qQm l n Bp Bs K vp vw vc P s J Jx w0 W hY hJ ((hW.block Bp (hlt hp)).trans hp) ((hW.block Bs (hlt hb)).trans hb) hP hK (eU.gI (hkw.trans (hW.mono hkw.size))) hKp hck hs h0
end Hy
end Go.Proofs.YtfncknignkndiaaGreatDoor
namespace Go.Proofs.YtfncknignkndiaaGreatDoor
open Tryz
open Go.RowKit KR Kn
attribute [local go_sem] Oper.semAt_some
namespace Hy
def sU (a:Int) (x:Win):Prop:=a - x.at_<0∨x.len≤a - x.at_
instance (a:Int) (x:Win):Decidable (sU a x):=by unfold sU;infer_instance
def nX:List Win→Int→Int × Int
 |[],_=> (-1,0)
 |x::l,a=> if sU a x then nX l a else if a - x.at_<2 then (x.part,1) else (x.part,2)
theorem qDc {a:Int}:∀ {l:List Win},(∀ x ∈ l,sU a x)→nX l a=(-1,0)
 |[],_=> rfl
 |x::l,h=> by
  unfold nX;rw [if_pos (h x (List.mem_cons_self ..))];exact qDc (fun y hy=> h y (List.mem_cons_of_mem _ hy))
theorem qDd {a:Int} {x:Win}:∀ {p l:List Win},p ++ [x] <+:l→(∀ y ∈ p,sU a y)→¬ sU a x→nX l a=if a - x.at_<2 then (x.part,1) else (x.part,2)
 |[],_,⟨t,ht⟩,_,hx=> by
  subst ht;show nX (x::t) a=_
  unfold nX;rw [if_neg hx]
 |y::p,_,⟨t,ht⟩,hm,hx=> by
  subst ht;show nX (y::(p ++ [x] ++ t)) a=_
  unfold nX;rw [if_pos (hm y (List.mem_cons_self ..))];exact qDd ⟨t,rfl⟩ (fun z hz=> hm z (List.mem_cons_of_mem _ hz)) hx
def wAt (P:Pl.fH) (s:Nat) (t:Int):Int × Int:=nX (gV P s) (t % P.fr)
def qUw (w:World) (b8:Nat) (a:Int) (pre:List Win) (W:World):Prop:=(((W.heap[w.heap.size + 1]? =some (.cells #[.int .i64 0] 3 (0,0))∧W.heap[w.heap.size + 1 + 1]? =some (.cells #[.int .i64 0] 3 (0,0)))∧W.heap[b8]? =some (.cells #[.int .i64 a] 3 (0,0)))∧Below w.heap.size w W)∧∀ x ∈ pre,sU a x
def qRf (w:World) (a:Int) (j:Code) (pre:List Win) (W:World):Prop:=(∃ (p:List Win) (x:Win),j=.ret∧pre=p ++ [x]∧¬ sU a x∧(∀ y ∈ p,sU a y)∧W.heap[w.heap.size + 1]? =some (.cells #[.int .i64 x.part] 3 (0,0))∧W.heap[w.heap.size + 1 + 1]? =some (.cells #[.int .i64 (if a - x.at_<2 then 1 else 2)] 3 (0,0)))∧Below w.heap.size w W
def Kw (z k:Nat):Prop:=k ≠ z + 1∧k ≠ z + 1 + 1
theorem qYh (n:Nat) (hn:3≤n) (vp vw vc:Value) (P:Pl.fH) (s:Nat) (t:Int) (w:World) (hP:jX w (.agg (eV vp vw vc P.fr)) P) (hck:Pl.check P=0) (hs:s<P.ws.length) (t0:0≤t) (t1:t≤18446744073709551615):
 CallsIn Fence.wide n prog 64 #[.agg (eV vp vw vc P.fr),.int .i64 s,.int .u64 t] w (aN (.tuple #[.int .i64 (wAt P s t).1,.int .i64 (wAt P s t).2]) w):=by
 have h1:1≤n:=by omega
 have hfr:=(Pl.cQ hck).2.2.2.2.2.2.1;have hfr1:=(Pl.cQ hck).2.2.2.2.2.1;have HP:=hU hP;clear hP;unfold eV;refine callsIn_of_wp_marks func64 rfl trivial ?_ rfl;simp only [ntmps64,List.size_toArray,List.length_cons,List.length_nil,Nat.reduceAdd,Nat.reduceSub,Array.replicate_succ,Array.replicate_zero,List.push_toArray,List.append_toArray,List.nil_append,List.cons_append];gi_wp2
 obtain ⟨q0,q1,q2⟩:=KR.gG w w.heap.size (.cells #[vp,.int .i64 P.fr,vw,vc] 53) (.cells #[.int .i64 0] 3) (.cells #[.int .i64 0] 3) rfl;have hB0:Below w.heap.size w (((w.alloc (.cells #[vp,.int .i64 P.fr,vw,vc] 53)).alloc (.cells #[.int .i64 0] 3)).alloc (.cells #[.int .i64 0] 3)):=bel;refine ⟨trivial,((callsIn_wide (n:=n - 1)).2 (qOf vp vw vc P.fr t _ hfr1 hfr t0 t1)).mono ?_⟩;rintro e W1 ⟨rfl,hb1⟩;obtain ⟨W0,hW0⟩:∃ W0,(((w.alloc (.cells #[vp,.int .i64 P.fr,vw,vc] 53)).alloc (.cells #[.int .i64 0] 3)).alloc (.cells #[.int .i64 0] 3))=W0:=⟨_,rfl⟩
 rw [hW0] at q0 q1 q2 hB0 hb1;clear hW0;have p0:W1.cell? ⟨w.heap.size,0,none⟩=some vp:=aC ((hb1.block _ (hlt q0)).trans q0) 0;have p1:W1.cell? ⟨w.heap.size,1,none⟩=some (.int .i64 P.fr):=aC ((hb1.block _ (hlt q0)).trans q0) 1;have p2:W1.cell? ⟨w.heap.size,2,none⟩=some vw:=aC ((hb1.block _ (hlt q0)).trans q0) 2;have p3:W1.cell? ⟨w.heap.size,3,none⟩=some vc:=aC ((hb1.block _ (hlt q0)).trans q0) 3;have hz1:=hlt ((hb1.block _ (hlt q2)).trans q2);have hz0:w.heap.size<W1.heap.size:=by omega
 obtain ⟨a,ha⟩:∃ a,t % P.fr=a:=⟨_,rfl⟩
 have ha0:0≤a:=by rw [← ha];exact Int.emod_nonneg _ (by omega)
 have ha1:a<4096:=by have:=Int.emod_lt_of_pos t (show 0<P.fr by omega);omega
 rw [ha];have HA:=hU ha;clear ha;gi_wp2
 refine ⟨trivial,(qKr (n - 1) vp vw vc P.fr s _).mono ?_⟩;rintro e w' ⟨rfl,rfl⟩;obtain ⟨r0,r1,r2⟩:=KR.gG W1 W1.heap.size (.cells #[.int .i64 a] 3) (.cells #[vp,.int .i64 P.fr,vw,vc] 53) (.cells #[.int .i64 s] 3) rfl;have hB1:Below W1.heap.size W1 (((W1.alloc (.cells #[.int .i64 a] 3)).alloc (.cells #[vp,.int .i64 P.fr,vw,vc] 53)).alloc (.cells #[.int .i64 s] 3)):=bel;have hsz:(((W1.alloc (.cells #[.int .i64 a] 3)).alloc (.cells #[vp,.int .i64 P.fr,vw,vc] 53)).alloc (.cells #[.int .i64 s] 3)).heap.size=W1.heap.size + 3:=by simp
 have hs1:(W1.alloc (.cells #[.int .i64 a] 3)).heap.size=W1.heap.size + 1:=by simp
 obtain ⟨W2,hW2⟩:∃ W2,(((W1.alloc (.cells #[.int .i64 a] 3)).alloc (.cells #[vp,.int .i64 P.fr,vw,vc] 53)).alloc (.cells #[.int .i64 s] 3))=W2:=⟨_,rfl⟩
 rw [hs1,hW2];rw [hW2] at r0 r1 r2 hB1 hsz;clear hW2 hs1 p0 p1 p2 p3;have hB2:Below w.heap.size w W2:=(hB0.trans (hb1.mono hB0.size)).trans (hB1.mono (by omega));replace q1:=(hB1.block _ (by omega)).trans ((hb1.block _ (hlt q1)).trans q1);replace q2:=(hB1.block _ (by omega)).trans ((hb1.block _ (hlt q2)).trans q2);have hw2:W1.heap.size + 1 + 1<W2.heap.size:=by omega
 clear q0 hB0 hb1 hB1 hsz;gi_wp2
 refine wpIn_rangeFunc_ownH rfl h1 (gf:=152) (lb:=#[.pointer (some ⟨W1.heap.size + 1,0,none⟩),.pointer (some ⟨W1.heap.size + 1 + 1,0,none⟩)]) rfl trivial (enters_of func152 (by kernel_rfl) rfl)
  (qBq (n - 1) (Kw w.heap.size) vp vw vc P s (W1.heap.size + 1) (W1.heap.size + 1 + 1) w W2 r1 r2 HP.out (fun k hk=> ⟨by omega,by omega⟩) hB2 ⟨by omega,by omega⟩ hck hs) (fun h k=> qM h k) (fun W l o o' _ h ho _=> qGe W l o o' h ho) (Below.refl _ _) (fun _=> rfl)
  (qUw w W1.heap.size a)
  (qRf w a)
  ?hI ?hIx ?h0
  (fun x a' W=> ∃ Bx,W1.heap.size<Bx∧W.heap[Bx]? =some (.cells x.cells 96 (0,0))∧a'={tmps:=#[.agg #[vp,.int .i64 P.fr,vw,vc],.int .i64 s,.int .u64 t,.pointer (some ⟨w.heap.size,0,none⟩),undef,undef,.pointer (some ⟨w.heap.size + 1,0,none⟩),.pointer (some ⟨w.heap.size + 1 + 1,0,none⟩),.pointer (some ⟨W1.heap.size,0,none⟩),.pointer (some ⟨Bx,0,none⟩),undef,.agg #[vp,.int .i64 P.fr,vw,vc],.int .u64 t,.int .i64 a,.agg #[vp,.int .i64 P.fr,vw,vc],.int .i64 s,.func (.func 152) #[] #[.pointer (some ⟨W1.heap.size + 1,0,none⟩),.pointer (some ⟨W1.heap.size + 1 + 1,0,none⟩)],.agg x.cells,undef,undef,undef,undef,undef,undef,undef,undef,undef,undef,undef,undef,undef,undef,undef,undef,undef,undef,undef,undef],defers:=[]})
  ?hAx ?assign ?body ?done ?stop
 case hI=> exact OwnFrom.and (OwnFrom.and (OwnFrom.and (OwnFrom.and (Go.Own.from (dR _ (fun _=> #[.int .i64 0]) _) _) (Go.Own.from (dR _ (fun _=> #[.int .i64 0]) _) _)) (Go.Own.from (dR _ (fun _=> #[.int .i64 a]) _) _)) (ownFrom_below (Nat.le_refl _) (by omega))) (fun _ _ _ _ h _ _=> h)
 case hIx=>
  intro j;refine OwnFrom.and ?_ (ownFrom_below (Nat.le_refl _) (by omega));rintro s X Y row ⟨p,x,h1,h2,h3,h4,h5,h6⟩ hg hr;exact ⟨p,x,h1,h2,h3,h4,dR (w.heap.size + 1) (fun (_:Unit)=> #[.int .i64 x.part]) _ () X Y row h5 hg (fun r e=> (hr r e).2),dR (w.heap.size + 1 + 1) (fun (_:Unit)=> #[.int .i64 (if a - x.at_<2 then 1 else 2)]) _ () X Y row h6 hg (fun r e=> (hr r e).2)⟩
 case h0=> exact ⟨⟨⟨⟨q1,q2⟩,r0⟩,hB2⟩,by simp⟩
 case hAx=>
  rintro x a' _ X Y row ⟨Bx,h1,h2,h3⟩ hg hr;exact ⟨Bx,h1,dR Bx (fun (_:Unit)=> x.cells) _ () X Y row h2 hg (fun r e=> (hr r e).2),h3⟩
 case assign=>
  rintro l pre x W K ⟨⟨⟨⟨hc0,hc1⟩,hca⟩,hBW⟩,hno⟩ hK;have hx1:=qKb x;have hz:=hBW.size;have h0:=hlt hc0;have h01:=hlt hc1;have h02:=hlt hca;have HK:=hU hK;clear hK;gi_wp2_with (refine cC (t:=96) (v:=.agg x.cells) rfl rfl rfl rfl qDt.size (fZ W _) rfl (by simp) hx1 (eD rfl) ?_;intro W3 hp2)
  have hb2:Below W.heap.size W W3:=Below.put ((Below.refl W.heap.size W).alloc (Nat.le_refl _) _) hp2 (Nat.le_refl _);exact HK.out _ _ (fJ hb2) (eU.gI hb2) ⟨⟨⟨⟨(hb2.block _ h0).trans hc0,(hb2.block _ h01).trans hc1⟩,(hb2.block _ h02).trans hca⟩,Below.to hBW hb2⟩,hno⟩ ⟨W.heap.size,h02,hp2.at_,rfl⟩
 case body=>
  rintro l pre x a' W hl ⟨r,hr⟩ ⟨⟨⟨⟨hc0,hc1⟩,hca⟩,hBW⟩,hno⟩ ⟨Bx,hBx,hbx,rfl⟩ hlt;have c0:W.cell? ⟨Bx,0,none⟩=some (.int .i64 x.part):=aC hbx 0;have c1:W.cell? ⟨Bx,1,none⟩=some (.int .i64 x.at_):=aC hbx 1;have c2:W.cell? ⟨Bx,2,none⟩=some (.int .i64 x.len):=aC hbx 2;have ca:W.cell? ⟨W1.heap.size,0,none⟩=some (.int .i64 a):=aC hca 0;have x0:=x.a0;have x1:=x.al;have x2:=x.l0;have hw:IntKind.i64.wrap (a - x.at_)=a - x.at_:=by rw [IntKind.wrap_i64];omega
  have HC0:=hU hc0;have HC1:=hU hc1;have HCA:=hU hca;have HBX:=hU hbx;have HBW:=hU hBW;have HNO:=hU hno;clear hc0 hc1 hca hbx hno;by_cases hx:sU a x
  · have HM:=hU hx;rcases (by unfold sU at hx;omega:a - x.at_<0∨(¬ a - x.at_<0∧x.len≤a - x.at_)) with d|⟨d,d'⟩
    case' inl=> have e1:decide (a - x.at_<0)=true:=decide_eq_true d
    case' inr=>
     have e1:decide (a - x.at_<0)=false:=decide_eq_false d;have e2:decide (x.len≤a - x.at_)=true:=decide_eq_true d'
    all_goals
     clear hx;gi_wp2
     exact ⟨KeepsFrom.refl _ _,eU.refl _ _,⟨⟨⟨⟨HC0.out,HC1.out⟩,HCA.out⟩,HBW.out⟩,by
      intro y hy;rcases List.mem_append.1 hy with h|h
      · exact HNO.out y h
      · rw [List.mem_singleton.1 h];exact HM.out⟩⟩
  · have HM:=hU hx;have e1:decide (a - x.at_<0)=false:=by unfold sU at hx;simp;omega
    have e2:decide (x.len≤a - x.at_)=false:=by unfold sU at hx;simp;omega
    clear hx;by_cases h2:a - x.at_<2
    case' pos=> have e3:decide (a - x.at_<2)=true:=decide_eq_true h2
    case' neg=> have e3:decide (a - x.at_<2)=false:=decide_eq_false h2
    all_goals
     have HE3:=hU h2;clear h2
     gi_wp2_with (first
      |(refine cC (t:=3) (v:=.int .i64 x.part) (off:=0) (new:=#[.int .i64 x.part]) rfl rfl rfl rfl cO.size HC0.out rfl (by simp) (gJ _) rfl ?_;intro W3 hp2;have HC02:=hU hp2.at_;have HC12:=hU ((hp2.oth (w.heap.size + 1 + 1) (by omega)).trans HC1.out);have HK2:=hU (gN (B:=W2.heap.size) HC0.out hp2);have HB2:=hU (Below.put HBW.out hp2 (by omega));clear hp2 HC0)
      |(refine cC (t:=3) (v:=.int .i64 _) (off:=0) (new:=#[.int .i64 _]) rfl rfl rfl rfl cO.size HC12.out rfl (by simp) (gJ _) rfl ?_;intro W4 hp3;have HC03:=hU ((hp3.oth (w.heap.size + 1) (by omega)).trans HC02.out);have HC13:=hU hp3.at_;have HK3:=hU (gN (B:=W2.heap.size) HC12.out hp3);have HB3:=hU (Below.put HB2.out hp3 (by omega));clear hp3))
     exact ⟨HK2.out.trans HK3.out,⟨⟨pre,x,rfl,rfl,HM.out,HNO.out,HC03.out,by first|(rw [if_pos HE3.out];exact HC13.out)|(rw [if_neg (by have:=HE3.out;omega)];exact HC13.out)⟩,HB3.out⟩⟩
 case done=>
  rintro D ys W hD rfl ⟨⟨⟨⟨hc0,hc1⟩,hca⟩,hBW⟩,hno⟩ hK;have HC0:=hU hc0;have HC1:=hU hc1;have HKD:=hU hK;have HBW:=hU hBW;have hd:wAt P s t=(-1,0):=by unfold wAt;rw [HA.out];exact qDc hno
  clear hc0 hc1 hca hK
  gi_wp2_with (first
   |(refine cC (t:=3) (v:=.int .i64 (-1)) (off:=0) (new:=#[.int .i64 (-1)]) rfl rfl rfl rfl cO.size HC0.out rfl (by simp) (gJ _) rfl ?_;intro W3 hp2;have HC02:=hU hp2.at_;have HC12:=hU ((hp2.oth (w.heap.size + 1 + 1) (by omega)).trans HC1.out);have HK2:=hU ((hp2.oth D (by omega)).trans HKD.out);have HB2:=hU (Below.put HBW.out hp2 (by omega));clear hp2 HC0)
   |(refine cC (t:=3) (v:=.int .i64 0) (off:=0) (new:=#[.int .i64 0]) rfl rfl rfl rfl cO.size HC12.out rfl (by simp) (gJ _) rfl ?_;intro W4 hp3;have HC03:=hU ((hp3.oth (w.heap.size + 1) (by omega)).trans HC02.out);have HC13:=hU hp3.at_;have HK3:=hU ((hp3.oth D (by omega)).trans HK2.out);have HB3:=hU (Below.put HB2.out hp3 (by omega));clear hp3))
  refine ⟨by simp,.inl ⟨_,_,rfl,run_takeDeferred HK3.out,?_⟩⟩;refine ⟨_,qAc results64 cO cO rfl rfl ((World.putObj_heap_other (by omega)).trans HC03.out) ((World.putObj_heap_other (by omega)).trans HC13.out),?_⟩;rw [hd];exact ⟨rfl,HB3.out.trans (belowK_b (w:=w) (Nat.le_refl _) W4 D _ _ (by omega) HK3.out rfl rfl)⟩
 case stop=>
  rintro D j pre W hD hpre ⟨⟨p,x,rfl,rfl,hx,hno,hc0,hc1⟩,hBW⟩ hK;have HC0:=hU hc0;have HC1:=hU hc1;have HKD:=hU hK
  have hd:wAt P s t=(x.part,if a - x.at_<2 then 1 else 2):=by
   unfold wAt;rw [HA.out,qDd hpre hno hx];split <;> rfl
  clear hc0 hc1 hK;gi_wp2
  refine ⟨by simp,.inl ⟨_,_,rfl,run_takeDeferred HKD.out,?_⟩⟩;refine ⟨_,qAc results64 cO cO rfl rfl ((World.putObj_heap_other (by omega)).trans HC0.out) ((World.putObj_heap_other (by omega)).trans HC1.out),?_⟩;rw [hd];exact ⟨rfl,hBW.trans (belowK_b (w:=w) (Nat.le_refl _) W D _ _ (by omega) HKD.out rfl rfl)⟩
theorem WAt (vp vw vc:Value) (P:Pl.fH) (s:Nat) (t:Int) (w:World) (hP:jX w (.agg (eV vp vw vc P.fr)) P) (hck:Pl.check P=0) (hs:s<P.ws.length) (t0:0≤t) (t1:t≤18446744073709551615):
 Calls prog 64 #[.agg (eV vp vw vc P.fr),.int .i64 s,.int .u64 t] w (aN (.tuple #[.int .i64 (wAt P s t).1,.int .i64 (wAt P s t).2]) w):=
 (callsIn_wide (n:=3)).1 (qYh 3 (by omega) vp vw vc P s t w hP hck hs t0 t1)
end Hy
end Go.Proofs.YtfncknignkndiaaGreatDoor
namespace Go.Proofs.YtfncknignkndiaaGreatDoor
open Tryz
open Go.RowKit KR Kn RegT3
attribute [local go_sem] Oper.semAt_some
namespace KR
theorem qGp {P:Program} {fn:Func} {p:Tmp} {ty:TypeId} (h:fn.results=#[.cell p ty]) (ht:One P ty) {tmps:Array Value} {W:World} {b:Nat} {v:Value} {T:TypeId} {fr:Nat × Nat} (hp:tmps.getD p undef=.pointer (some ⟨b,0,none⟩)) (hh:W.heap[b]? =some (.cells #[v] T fr)):
 (results fn tmps).run P W=.ok v W:=by
 have hp':tmps[p]?.getD undef=.pointer (some ⟨b,0,none⟩):=by simpa using hp
 have l1:=pJ (W:=W) ht (aC hh 0);simp only [Instr.loadAt,Instr.sureAddr,Sem.run_bind,Sem.run_pure,Result.andThen_ok] at l1;simp [results,h,hp',asAddr,l1]
end KR
namespace RegT3
def qFg (Q:Exit→Act→World→Prop):Exit→Act→World→Prop
 | .normal,a,w=> Q .normal a w
 |_,_,_=> False
theorem qMf {Q:Exit→Act→World→Prop}:∀ (e:Exit) (a:Act) (w:World),qFg Q e a w→Q e a w:=fun e a w h=> by
 cases e <;> first|exact h|exact (h:False).elim
theorem qZx {Q:Exit→Act→World→Prop} {a:Act} {w:World} (h:Q .normal a w):qFg Q .normal a w:=h
section
variable {P:Program} {ops:Array Oper} {Q:Exit→Act→World→Prop} {md:Region.Mode} {l n:Nat}
theorem qXe {o:Oper} {a:Act} {w:World} {K:Act→World→Prop} (hd:∀ c,o.op ≠ .defer c) (h:Oper.wp P o a w K Q):Oper.wpIn (Fence.wide.inRound l) n P o a w K Q:=by
 refine ⟨fun _ _=> trivial,?_⟩;rw [Oper.semAt_eq _ _ _ hd];unfold Oper.wp at h;generalize (execOp a.eval o).run P w=r at *;cases r with
 |ok x w'=> cases x <;> simp only [Oper.upon,Oper.uponIn] at h ⊢ <;> first|exact h|exact ⟨fun hh=> by simp [Fence.wide] at hh,(callsIn_wide.2 h).inRound l⟩|exact ⟨fun hh=> by simp [Fence.wide] at hh,fun c cs _=> let ⟨v,w',r,s⟩:=h c cs;⟨v,w',r,stepsIn_wide.2 s⟩⟩
 |halt x w'=> cases x <;> simp only [Oper.upon,Oper.uponIn] at h ⊢ <;> exact h
theorem qJj (hd:∀ (i:Nat) (o:Oper) (c:_),ops[i]? =some o→o.op ≠ .defer c):∀ (fuel:Nat) (listed:Array Bool) (a:Act) (w:World),wpAny P md ops (qFg Q) fuel listed a w→wpAnyIn (Fence.wide.inRound l) n P md ops (qFg Q) fuel listed a w
 |0,_,_,_,h=> h
 |fuel + 1,listed,a,w,h=> ⟨h.1,fun i hi=> by
  have h1:=h.2 i hi;unfold wpOp at h1;unfold wpOpIn;cases ho:ops[i]? with
  |none=>
   rw [ho] at h1;exact qJj hd fuel _ _ _ h1
  |some o=>
   rw [ho] at h1;dsimp only at h1 ⊢;split
   · next hw=>
     rw [if_pos hw] at h1;rcases h1 with h1|⟨_,_,_,h1⟩
     · exact Oper.wpIn_mono (fun a w h=> qJj hd fuel _ a w h) (qXe (fun c=> hd i o c ho) h1)
     · exact (h1:False).elim
   · next hw=>
     rw [if_neg hw] at h1;exact ⟨fun _ _=> trivial,qJj hd fuel _ _ _ h1⟩⟩
theorem qZo {S:World→Prop} (st:List Nat) {id:Nat} {a:Act} {w:World} (h0:S w.drew) (h:S w.drew→wpL P .any ops (qFg Q) S st ops.size (Array.replicate ops.size false) a w.drew)
 (hd:(ops.all fun o=> match o.op with| .defer _=> false|_=> true)=true:=by kernel_rfl) (hm:P.follows .mixedOrders=true:=by kernel_rfl):(Code.region id ops true).wpIn (Fence.wide.inRound l) n P Q a w:=
 wpIn_mono (wpIn_region_any hm (qJj (fun i o c ho e=> by
  have:=Array.all_eq_true'.1 hd o (Array.mem_of_getElem? ho)
  rw [e] at this;cases this) _ _ _ _ (oU st _ _ _ _ (h h0)))) qMf
end
end RegT3
namespace Hy
def fQ (P:Pl.fH) (s:Nat) (t:Int):Bool:=(gV P s).any (fun x=> x.at_==t % P.fr)
def qRa (w:World) (pc:Array Value) (t a:Int) (pre:List Win) (W:World):Prop:=(((W.heap[w.heap.size + 1 + 1]? =some (.cells #[.bool false] 4 (0,0))∧W.heap[w.heap.size + 1]? =some (.cells #[.int .u64 t] 35 (0,0)))∧W.heap[w.heap.size]? =some (.cells pc 53 (0,0)))∧Below w.heap.size w W)∧∀ x ∈ pre,¬ x.at_=a
def qNx (w:World) (a:Int) (j:Code) (pre:List Win) (W:World):Prop:=(∃ (p:List Win) (x:Win),j=.ret∧pre=p ++ [x]∧x.at_=a∧W.heap[w.heap.size + 1 + 1]? =some (.cells #[.bool true] 4 (0,0)))∧Below w.heap.size w W
def Ks (z k:Nat):Prop:=k ≠ z + 1 + 1
theorem qKu (n:Nat) (hn:3≤n) (vp vw vc:Value) (P:Pl.fH) (s:Nat) (t:Int) (w:World) (hP:jX w (.agg (eV vp vw vc P.fr)) P) (hck:Pl.check P=0) (hs:s<P.ws.length) (t0:0≤t) (t1:t≤18446744073709551615):
 CallsIn Fence.wide n prog 65 #[.agg (eV vp vw vc P.fr),.int .i64 s,.int .u64 t] w (aN (.bool (fQ P s t)) w):=by
 have h1:1≤n:=by omega
 have hfr:=(Pl.cQ hck).2.2.2.2.2.2.1;have hfr1:=(Pl.cQ hck).2.2.2.2.2.1;have HP:=hU hP;clear hP;unfold eV;refine callsIn_of_wp_marks func65 rfl trivial ?_ rfl;simp only [ntmps65,List.size_toArray,List.length_cons,List.length_nil,Nat.reduceAdd,Nat.reduceSub,Array.replicate_succ,Array.replicate_zero,List.push_toArray,List.append_toArray,List.nil_append,List.cons_append];gi_wp2
 obtain ⟨q0,q1,q2⟩:=KR.gG w w.heap.size (.cells #[vp,.int .i64 P.fr,vw,vc] 53) (.cells #[.int .u64 t] 35) (.cells #[.bool false] 4) rfl;have hB0:Below w.heap.size w (((w.alloc (.cells #[vp,.int .i64 P.fr,vw,vc] 53)).alloc (.cells #[.int .u64 t] 35)).alloc (.cells #[.bool false] 4)):=bel;have hsz0:(((w.alloc (.cells #[vp,.int .i64 P.fr,vw,vc] 53)).alloc (.cells #[.int .u64 t] 35)).alloc (.cells #[.bool false] 4)).heap.size=w.heap.size + 3:=by simp
 refine ⟨trivial,(qKr (n - 1) vp vw vc P.fr s _).mono ?_⟩;rintro e w' ⟨rfl,rfl⟩;obtain ⟨W1,hW1⟩:∃ W1,(((w.alloc (.cells #[vp,.int .i64 P.fr,vw,vc] 53)).alloc (.cells #[.int .u64 t] 35)).alloc (.cells #[.bool false] 4))=W1:=⟨_,rfl⟩
 rw [hW1] at q0 q1 q2 hB0 hsz0 ⊢;clear hW1;obtain ⟨r1,r2⟩:=eF W1 W1.heap.size (.cells #[vp,.int .i64 P.fr,vw,vc] 53) (.cells #[.int .i64 s] 3) rfl;have hB1:Below W1.heap.size W1 ((W1.alloc (.cells #[vp,.int .i64 P.fr,vw,vc] 53)).alloc (.cells #[.int .i64 s] 3)):=bel;have hsz:((W1.alloc (.cells #[vp,.int .i64 P.fr,vw,vc] 53)).alloc (.cells #[.int .i64 s] 3)).heap.size=W1.heap.size + 2:=by simp
 obtain ⟨W2,hW2⟩:∃ W2,((W1.alloc (.cells #[vp,.int .i64 P.fr,vw,vc] 53)).alloc (.cells #[.int .i64 s] 3))=W2:=⟨_,rfl⟩
 rw [hW2] at r1 r2 hB1 hsz ⊢;clear hW2;have hB2:Below w.heap.size w W2:=hB0.trans (hB1.mono (by omega));replace q0:=(hB1.block _ (by omega)).trans q0;replace q1:=(hB1.block _ (by omega)).trans q1;replace q2:=(hB1.block _ (by omega)).trans q2;have hw1:w.heap.size + 1 + 1<W1.heap.size:=by omega
 have hw2:W1.heap.size + 1<W2.heap.size:=by omega
 clear hB0 hB1 hsz hsz0;gi_wp2
 obtain ⟨a,ha⟩:∃ a,t % P.fr=a:=⟨_,rfl⟩
 refine wpIn_rangeFunc_ownH rfl h1 (gf:=152) (lb:=#[.pointer (some ⟨W1.heap.size,0,none⟩),.pointer (some ⟨W1.heap.size + 1,0,none⟩)]) rfl trivial (enters_of func152 (by kernel_rfl) rfl)
  (qBq (n - 1) (Ks w.heap.size) vp vw vc P s W1.heap.size (W1.heap.size + 1) w W2 r1 r2 HP.out (fun k hk=> (by unfold Ks;omega)) hB2 (by unfold Ks;omega) hck hs) (fun h k=> qM h k) (fun W l o o' _ h ho _=> qGe W l o o' h ho) (Below.refl _ _) (fun _=> rfl)
  (qRa w #[vp,.int .i64 P.fr,vw,vc] t a) (qNx w a)
  ?hI ?hIx ?h0
  (fun x a' W=> ∃ Bx,w.heap.size + 1 + 1<Bx∧W.heap[Bx]? =some (.cells x.cells 96 (0,0))∧a'={tmps:=#[.agg #[vp,.int .i64 P.fr,vw,vc],.int .i64 s,.int .u64 t,.pointer (some ⟨w.heap.size,0,none⟩),undef,.pointer (some ⟨w.heap.size + 1,0,none⟩),.pointer (some ⟨w.heap.size + 1 + 1,0,none⟩),.pointer (some ⟨Bx,0,none⟩),.agg #[vp,.int .i64 P.fr,vw,vc],.int .i64 s,.func (.func 152) #[] #[.pointer (some ⟨W1.heap.size,0,none⟩),.pointer (some ⟨W1.heap.size + 1,0,none⟩)],.agg x.cells,undef,undef,undef,undef,undef,undef],defers:=[]})
  ?hAx ?assign ?body ?done ?stop
 case hI=> exact OwnFrom.and (OwnFrom.and (OwnFrom.and (OwnFrom.and (Go.Own.from (dR _ (fun _=> #[.bool false]) _) _) (Go.Own.from (dR _ (fun _=> #[.int .u64 t]) _) _)) (Go.Own.from (dR _ (fun _=> #[vp,.int .i64 P.fr,vw,vc]) _) _)) (ownFrom_below (Nat.le_refl _) (by omega))) (fun _ _ _ _ h _ _=> h)
 case hIx=>
  intro j;refine OwnFrom.and ?_ (ownFrom_below (Nat.le_refl _) (by omega));rintro s X Y row ⟨p,x,h1,h2,h3,h4⟩ hg hr;exact ⟨p,x,h1,h2,h3,dR (w.heap.size + 1 + 1) (fun (_:Unit)=> #[.bool true]) _ () X Y row h4 hg (fun r e=> (hr r e).2)⟩
 case h0=> exact ⟨⟨⟨⟨q2,q1⟩,q0⟩,hB2⟩,by simp⟩
 case hAx=>
  rintro x a' _ X Y row ⟨Bx,h1,h2,h3⟩ hg hr;exact ⟨Bx,h1,dR Bx (fun (_:Unit)=> x.cells) _ () X Y row h2 hg (fun r e=> (hr r e).2),h3⟩
 case assign=>
  rintro l pre x W K ⟨⟨⟨⟨hc0,hc1⟩,hca⟩,hBW⟩,hno⟩ hK;have hx1:=qKb x;have hz:=hBW.size;have h0:=hlt hc0;have h01:=hlt hc1;have h02:=hlt hca;have HK:=hU hK;clear hK;gi_wp2_with (refine cC (t:=96) (v:=.agg x.cells) rfl rfl rfl rfl qDt.size (fZ W _) rfl (by simp) hx1 (eD rfl) ?_;intro W3 hp2)
  have hb2:Below W.heap.size W W3:=Below.put ((Below.refl W.heap.size W).alloc (Nat.le_refl _) _) hp2 (Nat.le_refl _);exact HK.out _ _ (fJ hb2) (eU.gI hb2) ⟨⟨⟨⟨(hb2.block _ h0).trans hc0,(hb2.block _ h01).trans hc1⟩,(hb2.block _ h02).trans hca⟩,Below.to hBW hb2⟩,hno⟩ ⟨W.heap.size,h0,hp2.at_,rfl⟩
 case body=>
  rintro l pre x a' W hl ⟨r,hr⟩ ⟨⟨⟨⟨hc0,hc1⟩,hca⟩,hBW⟩,hno⟩ ⟨Bx,hBx,hbx,rfl⟩ hlt';have c1:W.cell? ⟨Bx,1,none⟩=some (.int .i64 x.at_):=aC hbx 1;have ct:W.cell? ⟨w.heap.size + 1,0,none⟩=some (.int .u64 t):=aC hc1 0;have p0:W.cell? ⟨w.heap.size,0,none⟩=some vp:=aC hca 0;have p1:W.cell? ⟨w.heap.size,1,none⟩=some (.int .i64 P.fr):=aC hca 1;have p2:W.cell? ⟨w.heap.size,2,none⟩=some vw:=aC hca 2;have p3:W.cell? ⟨w.heap.size,3,none⟩=some vc:=aC hca 3;have HC0:=hU hc0;have HC1:=hU hc1;have HCA:=hU hca;have HBX:=hU hbx;have HBW:=hU hBW;have HNO:=hU hno;have HA:=hU ha;clear hc0 hc1 hca hbx hno;gi_wp2
  refine qZo (S:=fun W=> W.cell? ⟨Bx,1,none⟩=some (.int .i64 x.at_)∧W.cell? ⟨w.heap.size + 1,0,none⟩=some (.int .u64 t)∧W.cell? ⟨w.heap.size,0,none⟩=some vp∧W.cell? ⟨w.heap.size,1,none⟩=some (.int .i64 P.fr)∧W.cell? ⟨w.heap.size,2,none⟩=some vw∧W.cell? ⟨w.heap.size,3,none⟩=some vc) [] (⟨c1,ct,p0,p1,p2,p3⟩) fun hS=> ?_;refine tp 0 ?_;(try simp only [aF])
  refine tl 1 ?_;(try simp only [aF])
  refine tl 2 ?_;(try simp only [aF])
  refine tl 3 ?_;(try simp only [aF])
  refine ro 4 fun K hK=> ?_;refine want rfl ?_;go_simp;refine (qOf vp vw vc P.fr t _ hfr1 hfr t0 t1).mono ?_;rintro er W3 ⟨rfl,hb3⟩;rw [HA.out];have hbd:=(Below.refl W.heap.size W).drew.trans hb3;replace HC0:=nB hbd HC0;replace HC1:=nB hbd HC1;replace HCA:=nB hbd HCA;replace HBX:=nB hbd HBX;replace HBW:=hU (HBW.out.trans (hbd.mono HBW.out.size));have HKF:=hU (fJ (B:=W2.heap.size) hbd);have HKO:=hU (eU.gI (K:=Ks w.heap.size) hbd);have hzb:w.heap.size + 1 + 1<W3.heap.size:=hlt HC0.out;clear c1 ct p0 p1 p2 p3 hb3 hbd hS;dsimp only;refine nx hK (⟨aC HBX.out 1,aC HC1.out 0,aC HCA.out 0,aC HCA.out 1,aC HCA.out 2,aC HCA.out 3⟩) fun hS=> ?_;clear hK K;(try simp only [aF])
  refine tp 5 ?_;(try simp only [aF])
  refine aZ (by kernel_rfl) (qZx ?_) _;clear hS;by_cases hx:x.at_=a
  · have e1:(x.at_==a)=true:=by simp [hx]
    have HX:=hU hx;clear hx;gi_wp2_with (refine cC (t:=4) (v:=.bool true) (off:=0) (new:=#[.bool true]) rfl rfl rfl rfl nR.size HC0.out rfl (by simp) (by intro u hu;simp [Value.cells] at hu;subst hu;rfl) rfl ?_;intro W4 hp2;have HC02:=hU hp2.at_;have HK2:=hU (gN (B:=W2.heap.size) HC0.out hp2);have HB2:=hU (Below.put HBW.out hp2 (by omega));clear hp2)
    exact ⟨HKF.out.trans HK2.out,⟨⟨pre,x,rfl,rfl,HX.out,HC02.out⟩,HB2.out⟩⟩
  · have e1:(x.at_==a)=false:=by simp [hx]
    have HX:=hU hx;clear hx;gi_wp2
    exact ⟨HKF.out,HKO.out,⟨⟨⟨⟨HC0.out,HC1.out⟩,HCA.out⟩,HBW.out⟩,by
     intro y hy;rcases List.mem_append.1 hy with h|h
     · exact HNO.out y h
     · rw [List.mem_singleton.1 h];exact HX.out⟩⟩
 case done=>
  rintro D ys W hD rfl ⟨⟨⟨⟨hc0,hc1⟩,hca⟩,hBW⟩,hno⟩ hK;have HC0:=hU hc0;have HKD:=hU hK;have HBW:=hU hBW
  have hd:fQ P s t=false:=by
   unfold fQ;rw [ha,List.any_eq_false];intro x hx;simpa using hno x hx
  clear hc0 hc1 hca hK;gi_wp2_with (refine cC (t:=4) (v:=.bool false) (off:=0) (new:=#[.bool false]) rfl rfl rfl rfl nR.size HC0.out rfl (by simp) (by intro u hu;simp [Value.cells] at hu;subst hu;rfl) rfl ?_;intro W3 hp2;have HC02:=hU hp2.at_;have HK2:=hU ((hp2.oth D (by omega)).trans HKD.out);have HB2:=hU (Below.put HBW.out hp2 (by omega));clear hp2)
  refine ⟨by simp,.inl ⟨_,_,rfl,run_takeDeferred HK2.out,?_⟩⟩;refine ⟨_,qGp results65 nR rfl ((World.putObj_heap_other (by omega)).trans HC02.out),?_⟩;rw [hd];exact ⟨rfl,HB2.out.trans (belowK_b (w:=w) (Nat.le_refl _) W3 D _ _ (by omega) HK2.out rfl rfl)⟩
 case stop=>
  rintro D j pre W hD hpre ⟨⟨p,x,rfl,rfl,hx,hc0⟩,hBW⟩ hK;have HC0:=hU hc0;have HKD:=hU hK
  have hd:fQ P s t=true:=by
   unfold fQ;rw [ha,List.any_eq_true];exact ⟨x,hpre.subset (by simp),by simp [hx]⟩
  clear hc0 hK;gi_wp2
  refine ⟨by simp,.inl ⟨_,_,rfl,run_takeDeferred HKD.out,?_⟩⟩;refine ⟨_,qGp results65 nR rfl ((World.putObj_heap_other (by omega)).trans HC0.out),?_⟩;rw [hd];exact ⟨rfl,hBW.trans (belowK_b (w:=w) (Nat.le_refl _) W D _ _ (by omega) HKD.out rfl rfl)⟩
theorem qRw (vp vw vc:Value) (P:Pl.fH) (s:Nat) (t:Int) (w:World) (hP:jX w (.agg (eV vp vw vc P.fr)) P) (hck:Pl.check P=0) (hs:s<P.ws.length) (t0:0≤t) (t1:t≤18446744073709551615):
 Calls prog 65 #[.agg (eV vp vw vc P.fr),.int .i64 s,.int .u64 t] w (aN (.bool (fQ P s t)) w):=
 (callsIn_wide (n:=3)).1 (qKu 3 (by omega) vp vw vc P s t w hP hck hs t0 t1)
end Hy
end Go.Proofs.YtfncknignkndiaaGreatDoor
namespace Go.Proofs.YtfncknignkndiaaGreatDoor
open Tryz
open Go.RowKit KR Kn
namespace Hy
theorem qKj {a:Int}:∀ {l:List Win},(nX l a).2 ≠ 0→∃ x ∈ l,(nX l a).1=x.part
 |[],h=> absurd rfl h
 |x::l,h=> by
  unfold nX at h ⊢;split
  · next hm=>
    rw [if_pos hm] at h;obtain ⟨y,hy,he⟩:=qKj h;exact ⟨y,List.mem_cons_of_mem _ hy,he⟩
  · refine ⟨x,List.mem_cons_self ..,?_⟩;split <;> rfl
theorem oR {a:Int}:∀ {l:List Win} {x:Win},x ∈ l→¬ sU a x→(nX l a).2 ≠ 0
 |y::l,x,hx,hm=> by
  unfold nX;split
  · next hy=>
    rcases List.mem_cons.1 hx with rfl|hx
    · exact absurd hy hm
    · exact oR hx hm
  · split <;> simp
theorem qXt {P:Pl.fH} (h:Pl.check P=0) {s:Nat} {t:Int} (h2:(wAt P s t).2 ≠ 0):0≤(wAt P s t).1∧(wAt P s t).1<P.ps.length:=by
 obtain ⟨x,hx,he⟩:=qKj h2;unfold wAt;rw [he];obtain ⟨r,hr,rfl⟩:=List.mem_map.1 hx;obtain ⟨h1,h3,_⟩:=tL h s r hr;rw [(qBo (qEz h s r hr)).1];exact ⟨h1,h3⟩
theorem qMq {P:Pl.fH} (h:Pl.check P=0) {s:Nat} {t:Int} (h2:fQ P s t=true):(wAt P s t).2 ≠ 0:=by
 unfold fQ at h2;obtain ⟨x,hx,he⟩:=List.any_eq_true.1 h2;refine oR hx ?_;have he:x.at_=t % P.fr:=by simpa using he
 obtain ⟨r,hr,rfl⟩:=List.mem_map.1 hx;obtain ⟨_,_,_,h4,_⟩:=tL h s r hr;have e:=qBo (qEz h s r hr);unfold sU;rw [e.2.2];rw [e.2.1] at he ⊢;omega
