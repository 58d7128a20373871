/- Packed images in plain Lean: rows of bytes' rows; what is packed alike is the same. No condition. Packed images in plain Lean, piece by piece, and the bounds of their lengths. No condition. The images of bytes in plain Lean: a parser; what it takes is packed by the same bytes, what was packed is taken as it was. No condition. load.unpack's steps in plain Lean: what a loop has taken, and what is left to take. No condition. Slices of strings, slices of such slices, as they lie in memory; searches. No condition. -/
import Derived.Test.YthgehdghihbiaaaGreatDoorGPlR
set_option linter.unusedVariables false
set_option linter.unusedSimpArgs false
namespace Go.Proofs.YthgehdghihbiaaaGreatDoor.Ld
def fits (l:List (List (List UInt8))):Bool:=decide (l.length≤4) && l.all (fun row=> decide (row.length≤8) && row.all (fun s=> decide (s.length≤64)))
def byte (n:Nat):UInt8:=UInt8.ofNat n
def packRow:List (List UInt8)→List UInt8
 |[]=> []
 |s::row=> byte s.length::(s ++ packRow row)
def packRows:List (List (List UInt8))→List UInt8
 |[]=> []
 |row::l=> byte row.length::(packRow row ++ packRows l)
def pack (l:List (List (List UInt8))):List UInt8:=byte l.length::packRows l
theorem bl (s:ByteArray):s.data.toList.length=s.size:=Array.length_toList
def row (r:List ByteArray):List (List UInt8):=r.map (·.data.toList)
def of (l:List (List ByteArray)):List (List (List UInt8)):=l.map row
theorem packRow_snoc (a:List (List UInt8)) (s:List UInt8):packRow (a ++ [s])=packRow a ++ byte s.length::s:=by
 induction a with
 |nil=> simp [packRow]
 |cons x a ih=> simp [packRow,ih]
theorem packRows_snoc (a:List (List (List UInt8))) (r:List (List UInt8)):packRows (a ++ [r])=packRows a ++ byte r.length::packRow r:=by
 induction a with
 |nil=> simp [packRows]
 |cons x a ih=> simp [packRows,ih]
theorem packRow_length (a:List (List UInt8)) (h:∀ s ∈ a,s.length≤64):(packRow a).length≤65 * a.length:=by
 induction a with
 |nil=> simp [packRow]
 |cons x a ih=>
  have h1:=h x (by simp)
  have h2:=ih (fun s hs=> h s (by simp [hs]))
  simp only [packRow,List.length_cons,List.length_append]
  omega
theorem packRows_length (a:List (List (List UInt8))) (h:∀ r ∈ a,r.length≤8∧∀ s ∈ r,s.length≤64):(packRows a).length≤521 * a.length:=by
 induction a with
 |nil=> simp [packRows]
 |cons x a ih=>
  have h1:=h x (by simp)
  have h2:=ih (fun s hs=> h s (by simp [hs]))
  have h3:=packRow_length x h1.2
  simp only [packRows,List.length_cons,List.length_append]
  omega
theorem take_row {r:List ByteArray} {j:Nat} (h:j<r.length):row (r.take (j + 1))=row (r.take j) ++ [(r.getD j ByteArray.empty).data.toList]:=by
 rw [List.take_succ_eq_append_getElem h,List.getD_eq_getElem?_getD,List.getElem?_eq_getElem h,row,List.map_append]
 rfl
theorem take_of {l:List (List ByteArray)} {k:Nat} (h:k<l.length):of (l.take (k + 1))=of (l.take k) ++ [row (l.getD k [])]:=by
 rw [List.take_succ_eq_append_getElem h,List.getD_eq_getElem?_getD,List.getElem?_eq_getElem h,of,List.map_append]
 rfl
def okRow (r:List ByteArray):Bool:=decide (r.length≤8) && !(r.any (fun s=> decide (64<s.size)))
theorem okRow_iff (r:List ByteArray):okRow r=true↔(row r).length≤8∧∀ s ∈ row r,s.length≤64:=by
 simp only [okRow,row,Bool.and_eq_true,decide_eq_true_eq,List.length_map,List.mem_map,Bool.not_eq_true',List.any_eq_false]
 refine and_congr_right fun _=> ⟨?_,?_⟩
 · rintro h s ⟨x,hx,rfl⟩
   have:=h x hx
   rw [bl]
   simpa using this
 · intro h x hx
   have:=h _ ⟨x,hx,rfl⟩
   rw [bl] at this
   simpa using this
theorem fits_iff (l:List (List ByteArray)):fits (of l)=true↔l.length≤4∧∀ r ∈ l,okRow r=true:=by
 simp only [fits,of,Bool.and_eq_true,decide_eq_true_eq,List.length_map,List.all_eq_true,List.mem_map]
 refine and_congr_right fun _=> ⟨?_,?_⟩
 · intro h r hr
   rw [okRow_iff]
   exact h _ ⟨r,hr,rfl⟩
 · rintro h _ ⟨r,hr,rfl⟩
   exact (okRow_iff r).1 (h r hr)
def packS (l:List (List ByteArray)):ByteArray:=if fits (of l) then ⟨(pack (of l)).toArray⟩ else ByteArray.empty
def packE (l:List (List ByteArray)):Int:=if fits (of l) then 0 else 4
theorem cells_byte (n:Nat) (h:n<256):Lib.byteCells [byte n]=[Value.int .u8 (n:Int)]:=by
 simp only [Lib.byteCells,byte,List.map_cons,List.map_nil,UInt8.toNat_ofNat']
 congr 2
 omega
def rowsK (l:List (List ByteArray)) (k:Nat):List UInt8:=byte l.length::packRows (of (l.take k))
def rowsKJ (l:List (List ByteArray)) (k:Nat) (r:List ByteArray) (j:Nat):List UInt8:=rowsK l k ++ byte r.length::packRow (row (r.take j))
theorem mem_take_ok {l:List (List ByteArray)} {k:Nat} (h:∀ r ∈ l.take k,okRow r=true):∀ r ∈ of (l.take k),r.length≤8∧∀ s ∈ r,s.length≤64:=by
 intro r hr
 obtain ⟨x,hx,rfl⟩:=List.mem_map.mp hr
 exact (okRow_iff x).1 (h x hx)
theorem rowsK_length {l:List (List ByteArray)} {k:Nat} (hl:l.length≤4) (h:∀ r ∈ l.take k,okRow r=true):(rowsK l k).length≤2085:=by
 have h1:=packRows_length _ (mem_take_ok h)
 have h2:(of (l.take k)).length≤4:=by
  rw [of,List.length_map]
  exact Nat.le_trans (List.length_take_le' _ _) hl
 simp only [rowsK,List.length_cons]
 omega
theorem rowsKJ_length {l:List (List ByteArray)} {k j:Nat} {r:List ByteArray} (hl:l.length≤4) (h:∀ r ∈ l.take k,okRow r=true) (hr:okRow r=true):(rowsKJ l k r j).length≤2606:=by
 have h1:=rowsK_length hl h
 obtain ⟨h2,h3⟩:=(okRow_iff r).1 hr
 have h4:(packRow (row (r.take j))).length≤65 * (row (r.take j)).length:=packRow_length _ (fun s hs=> by
  obtain ⟨x,hx,rfl⟩:=List.mem_map.mp hs
  exact h3 _ (List.mem_map.mpr ⟨x,List.mem_of_mem_take hx,rfl⟩))
 have h5:(row (r.take j)).length≤8:=by
  rw [row,List.length_map]
  rw [row,List.length_map] at h2
  exact Nat.le_trans (List.length_take_le' _ _) h2
 simp only [rowsKJ,List.length_append,List.length_cons]
 omega
theorem rowsKJ_next (l:List (List ByteArray)) (k:Nat) (r:List ByteArray) (j:Nat) (h:j<r.length):rowsKJ l k r j ++ [byte (r.getD j ByteArray.empty).size] ++ (r.getD j ByteArray.empty).data.toList=rowsKJ l k r (j + 1):=by
 rw [rowsKJ,rowsKJ,take_row h,packRow_snoc,bl]
 simp
theorem rowsKJ_end (l:List (List ByteArray)) (k:Nat) (h:k<l.length):rowsKJ l k (l.getD k []) (l.getD k []).length=rowsK l (k + 1):=by
 rw [rowsKJ,rowsK,rowsK,take_of h,packRows_snoc,List.take_length]
 simp [row]
theorem take_ok {l:List (List ByteArray)} {k:Nat} (hk:k<l.length) (h:∀ r ∈ l.take k,okRow r=true) (hr:okRow (l.getD k [])=true):∀ r ∈ l.take (k + 1),okRow r=true:=by
 rw [List.take_succ_eq_append_getElem hk]
 rw [List.getD_eq_getElem?_getD,List.getElem?_eq_getElem hk] at hr
 intro r hm
 rcases List.mem_append.mp hm with hm|hm
 · exact h r hm
 · rw [List.mem_singleton] at hm
   rw [hm]
   exact hr
theorem not_fits_long {l:List (List ByteArray)} (h:¬ l.length≤4):fits (of l)=false:=by
 rw [Bool.eq_false_iff]
 intro hf
 exact h ((fits_iff l).1 hf).1
theorem not_fits_row {l:List (List ByteArray)} {k:Nat} (hk:k<l.length) (h:okRow (l.getD k [])=false):fits (of l)=false:=by
 rw [Bool.eq_false_iff]
 intro hf
 rw [List.getD_eq_getElem?_getD,List.getElem?_eq_getElem hk] at h
 exact absurd (((fits_iff l).1 hf).2 _ (List.getElem_mem hk)) (by rw [Option.getD_some] at h;rw [h];decide)
theorem fits_end {l:List (List ByteArray)} (hl:l.length≤4) (h:∀ r ∈ l.take l.length,okRow r=true):fits (of l)=true:=(fits_iff l).2 ⟨hl,by rw [List.take_length] at h;exact h⟩
theorem rowsK_end (l:List (List ByteArray)):rowsK l l.length=pack (of l):=by
 rw [rowsK,pack,List.take_length,of,List.length_map]
theorem packS_no {l:List (List ByteArray)} (h:fits (of l)=false):ByteArray.empty=packS l:=by rw [packS,h];rfl
theorem packE_no {l:List (List ByteArray)} (h:fits (of l)=false):(4:Int)=packE l:=by rw [packE,h];rfl
theorem packS_yes {l:List (List ByteArray)} (h:fits (of l)=true):(⟨(rowsK l l.length).toArray⟩:ByteArray)=packS l:=by rw [packS,h,rowsK_end];rfl
theorem packE_yes {l:List (List ByteArray)} (h:fits (of l)=true):(0:Int)=packE l:=by rw [packE,h];rfl
theorem okRow_big {r:List ByteArray} (h:¬ r.length≤8):okRow r=false:=by simp [okRow,h]
theorem okRow_any {r:List ByteArray} (h:r.any (fun s=> decide (64<s.size))=true):okRow r=false:=by simp [okRow,h]
theorem okRow_yes {r:List ByteArray} (h8:r.length≤8) (h:r.any (fun s=> decide (64<s.size))=false):okRow r=true:=by simp [okRow,h8,h]
theorem okRow_size {r:List ByteArray} {j:Nat} (h:okRow r=true) (hj:j<r.length):(r.getD j ByteArray.empty).size≤64:=by
 have:=((okRow_iff r).1 h).2 _ (List.mem_map.mpr ⟨_,List.getElem_mem hj,rfl⟩)
 rw [List.getD_eq_getElem?_getD,List.getElem?_eq_getElem hj]
 rw [bl] at this
 exact this
def strs:Nat→List UInt8→Except Nat (List (List UInt8) × List UInt8)
 |0,s=> .ok ([],s)
 |n + 1,[]=> .error 2
 |n + 1,c::t=> if c.toNat > 64 then .error 4 else if c.toNat > t.length then .error 2 else
    match strs n (t.drop c.toNat) with
    | .error e=> .error e
    | .ok (r,u)=> .ok (t.take c.toNat::r,u)
def rows:Nat→List UInt8→Except Nat (List (List (List UInt8)) × List UInt8)
 |0,s=> .ok ([],s)
 |n + 1,[]=> .error 2
 |n + 1,c::t=> if c.toNat > 8 then .error 4 else
    match strs c.toNat t with
    | .error e=> .error e
    | .ok (r,u)=>
      match rows n u with
      | .error e=> .error e
      | .ok (q,v)=> .ok (r::q,v)
def finish:Except Nat (List (List (List UInt8)) × List UInt8)→Except Nat (List (List (List UInt8)))
 | .error e=> .error e
 | .ok (q,v)=> if v=[] then .ok q else .error 3
def unpack:List UInt8→Except Nat (List (List (List UInt8)))
 |[]=> .error 2
 |c::t=> if c.toNat > 4 then .error 4 else finish (rows c.toNat t)
theorem byte_toNat {c:UInt8}:byte c.toNat=c:=by simp [byte]
theorem strs_ok:∀ (n:Nat) (s:List UInt8) (r:List (List UInt8)) (u:List UInt8),strs n s=.ok (r,u)→r.length=n∧(∀ x ∈ r,x.length≤64)∧s=packRow r ++ u
 |0,s,r,u,h=> by
  simp only [strs,Except.ok.injEq,Prod.mk.injEq] at h
  obtain ⟨rfl,rfl⟩:=h
  simp [packRow]
 |n + 1,[],r,u,h=> by simp [strs] at h
 |n + 1,c::t,r,u,h=> by
  simp only [strs] at h
  split at h
  · cases h
  · rename_i h64
    split at h
    · cases h
    · rename_i hlen
      split at h
      · cases h
      · rename_i r' u' he
        simp only [Except.ok.injEq,Prod.mk.injEq] at h
        obtain ⟨rfl,rfl⟩:=h
        obtain ⟨h1,h2,h3⟩:=strs_ok n _ _ _ he
        have hl:(t.take c.toNat).length=c.toNat:=by rw [List.length_take];omega
        refine ⟨by simp [h1],?_,?_⟩
        · intro x hx
          rcases List.mem_cons.mp hx with rfl|hx
          · omega
          · exact h2 x hx
        · rw [packRow,hl,byte_toNat,List.cons_append,List.append_assoc,← h3,List.take_append_drop]
theorem rows_ok:∀ (n:Nat) (s:List UInt8) (q:List (List (List UInt8))) (u:List UInt8),rows n s=.ok (q,u)→q.length=n∧(∀ r ∈ q,r.length≤8∧∀ x ∈ r,x.length≤64)∧s=packRows q ++ u
 |0,s,q,u,h=> by
  simp only [rows,Except.ok.injEq,Prod.mk.injEq] at h
  obtain ⟨rfl,rfl⟩:=h
  simp [packRows]
 |n + 1,[],q,u,h=> by simp [rows] at h
 |n + 1,c::t,q,u,h=> by
  simp only [rows] at h
  split at h
  · cases h
  · rename_i h8
    split at h
    · cases h
    · rename_i r u1 he
      split at h
      · cases h
      · rename_i q' v he2
        simp only [Except.ok.injEq,Prod.mk.injEq] at h
        obtain ⟨rfl,rfl⟩:=h
        obtain ⟨a1,a2,a3⟩:=strs_ok _ _ _ _ he
        obtain ⟨b1,b2,b3⟩:=rows_ok n _ _ _ he2
        refine ⟨by simp [b1],?_,?_⟩
        · intro x hx
          rcases List.mem_cons.mp hx with rfl|hx
          · exact ⟨by omega,a2⟩
          · exact b2 x hx
        · rw [packRows,a1,byte_toNat,List.cons_append,List.append_assoc,← b3,← a3]
theorem unpack_ok {s:List UInt8} {q:List (List (List UInt8))} (h:unpack s=.ok q):fits q=true∧s=pack q:=by
 match s,h with
 |[],h=> simp [unpack] at h
 |c::t,h=>
  simp only [unpack] at h
  split at h
  · cases h
  · rename_i h4
    match hr:rows c.toNat t,h with
    | .error e,h=> simp [finish] at h
    | .ok (q',v),h=>
      simp only [finish] at h
      split at h
      · rename_i hv
        injection h with h
        subst h hv
        obtain ⟨a1,a2,a3⟩:=rows_ok _ _ _ _ hr
        refine ⟨?_,?_⟩
        · simp only [fits,Bool.and_eq_true,decide_eq_true_eq,List.all_eq_true]
          exact ⟨by omega,a2⟩
        · rw [pack,a1,byte_toNat,a3,List.append_nil]
      · cases h
theorem drop_at (s:ByteArray) (p:Nat) (h:p<s.size):s.data.toList.drop p=s[p]::s.data.toList.drop (p + 1):=by
 have hl:p<s.data.toList.length:=by rw [bl];exact h
 rw [List.drop_eq_getElem_cons hl]
 congr 1
theorem drop_none (s:ByteArray) (p:Nat) (h:s.size≤p):s.data.toList.drop p=[]:=List.drop_of_length_le (by rw [bl];exact h)
theorem drop_len (s:ByteArray) (p:Nat):(s.data.toList.drop p).length=s.size - p:=by rw [List.length_drop,bl]
theorem extract_list (s:ByteArray) (a n:Nat):(s.extract a (a + n)).data.toList=(s.data.toList.drop a).take n:=by
 rw [ByteArray.data_extract,Array.toList_extract,List.extract_eq_take_drop]
 congr 1
 omega
def pre (acc:List ByteArray):Except Nat (List (List UInt8) × List UInt8)→Except Nat (List (List UInt8) × List UInt8)
 | .error e=> .error e
 | .ok (r,u)=> .ok (row acc ++ r,u)
theorem pre_nil (x:Except Nat (List (List UInt8) × List UInt8)):pre [] x=x:=by
 match x with
 | .error e=> rfl
 | .ok (r,u)=> rfl
section
variable {X:Except Nat (List (List UInt8) × List UInt8)} {acc:List ByteArray} {k p:Nat} {s:ByteArray}
theorem strs_more (h:X=pre acc (strs (k + 1) (s.data.toList.drop p))) (hp:s.size≤p):X=.error 2:=by
 rw [h,drop_none s p hp];rfl
theorem strs_big (h:X=pre acc (strs (k + 1) (s.data.toList.drop p))) (hp:p<s.size) (hm:64<s[p].toNat):X=.error 4:=by
 rw [h,drop_at s p hp,strs,if_pos hm];rfl
theorem strs_short (h:X=pre acc (strs (k + 1) (s.data.toList.drop p))) (hp:p<s.size) (hm:¬ 64<s[p].toNat) (hl:s.size - (p + 1)<s[p].toNat):X=.error 2:=by
 rw [h,drop_at s p hp,strs,if_neg hm,if_pos (by rw [drop_len];exact hl)];rfl
theorem strs_next (h:X=pre acc (strs (k + 1) (s.data.toList.drop p))) (hp:p<s.size) (hm:¬ 64<s[p].toNat) (hl:¬ s.size - (p + 1)<s[p].toNat):
 X=pre (acc ++ [s.extract (p + 1) (p + 1 + s[p].toNat)]) (strs k (s.data.toList.drop (p + 1 + s[p].toNat))):=by
 rw [h,drop_at s p hp,strs,if_neg hm,if_neg (by rw [drop_len];exact hl),List.drop_drop]
 match strs k (s.data.toList.drop (p + 1 + s[p].toNat)) with
 | .error e=> rfl
 | .ok (r,u)=> simp [pre,row,extract_list]
theorem strs_end (h:X=pre acc (strs 0 (s.data.toList.drop p))):X=.ok (row acc,s.data.toList.drop p):=by
 rw [h,strs,pre,List.append_nil]
end
def preR (acc:List (List ByteArray)):Except Nat (List (List (List UInt8)) × List UInt8)→Except Nat (List (List (List UInt8)) × List UInt8)
 | .error e=> .error e
 | .ok (r,u)=> .ok (of acc ++ r,u)
theorem preR_nil (x:Except Nat (List (List (List UInt8)) × List UInt8)):preR [] x=x:=by
 match x with
 | .error e=> rfl
 | .ok (r,u)=> rfl
section
variable {Y:Except Nat (List (List (List UInt8)))} {acc:List (List ByteArray)} {k p p' c:Nat} {s:ByteArray} {r:List ByteArray}
theorem unp_more (hp:s.size≤0):unpack s.data.toList=.error 2:=by
 have:=drop_none s 0 hp
 rw [List.drop_zero] at this
 rw [this];rfl
theorem unp_big (hp:0<s.size) (hm:4<s[0].toNat):unpack s.data.toList=.error 4:=by
 have:=drop_at s 0 hp
 rw [List.drop_zero] at this
 rw [this,unpack,if_pos hm]
theorem unp_go (hp:0<s.size) (hm:¬ 4<s[0].toNat):unpack s.data.toList=finish (preR [] (rows s[0].toNat (s.data.toList.drop 1))):=by
 have:=drop_at s 0 hp
 rw [List.drop_zero] at this
 rw [preR_nil]
 conv=> lhs;rw [this,unpack,if_neg hm]
theorem rows_more (h:Y=finish (preR acc (rows (k + 1) (s.data.toList.drop p)))) (hp:s.size≤p):Y=.error 2:=by
 rw [h,drop_none s p hp];rfl
theorem rows_big (h:Y=finish (preR acc (rows (k + 1) (s.data.toList.drop p)))) (hp:p<s.size) (hm:8<s[p].toNat):Y=.error 4:=by
 rw [h,drop_at s p hp,rows,if_pos hm];rfl
theorem rows_bad (h:Y=finish (preR acc (rows (k + 1) (s.data.toList.drop p)))) (hp:p<s.size) (hm:¬ 8<s[p].toNat) (hs:strs s[p].toNat (s.data.toList.drop (p + 1))=.error c):Y=.error c:=by
 rw [h,drop_at s p hp,rows,if_neg hm,hs];rfl
theorem rows_next (h:Y=finish (preR acc (rows (k + 1) (s.data.toList.drop p)))) (hp:p<s.size) (hm:¬ 8<s[p].toNat) (hs:strs s[p].toNat (s.data.toList.drop (p + 1))=.ok (row r,s.data.toList.drop p')):
 Y=finish (preR (acc ++ [r]) (rows k (s.data.toList.drop p'))):=by
 rw [h,drop_at s p hp,rows,if_neg hm,hs]
 show finish (preR acc (match rows k (s.data.toList.drop p') with| .error e=> .error e| .ok (q,v)=> .ok (row r::q,v)))=_
 match rows k (s.data.toList.drop p') with
 | .error e=> rfl
 | .ok (q,u)=> simp [preR,of]
theorem rows_left (h:Y=finish (preR acc (rows 0 (s.data.toList.drop p)))) (hp:p<s.size):Y=.error 3:=by
 rw [h,drop_at s p hp,rows,preR,finish,if_neg (by simp)]
theorem rows_end (h:Y=finish (preR acc (rows 0 (s.data.toList.drop p)))) (hp:s.size≤p):Y=.ok (of acc):=by
 rw [h,drop_none s p hp,rows,preR,finish,if_pos rfl,List.append_nil]
end
end Go.Proofs.YthgehdghihbiaaaGreatDoor.Ld
namespace Go.Proofs.YthgehdghihbiaaaGreatDoor
open Go.RowKit
def StrsAt (W:World) (v:Value) (l:List ByteArray):Prop:=
 ∃ a c,v=.slice a l.length c∧(l.length≤c∧c≤9223372036854775807)∧(∀ s ∈ l,s.size≤9223372036854775807)∧(l=[]∨∃ b off,a=some ⟨b,off,none⟩∧b<W.heap.size∧∀ i,i<l.length→W.cell? ⟨b,off + i,none⟩=some (.string (l.getD i ByteArray.empty)))
def ImgsAt (W:World) (v:Value) (ls:List (List ByteArray)):Prop:=
 ∃ a c,v=.slice a ls.length c∧(ls.length≤c∧c≤9223372036854775807)∧(ls=[]∨∃ b off,a=some ⟨b,off,none⟩∧b<W.heap.size∧∀ i,i<ls.length→∃ u,W.cell? ⟨b,off + i,none⟩=some u∧StrsAt W u (ls.getD i []))
theorem StrsAt.below {W W':World} {v:Value} {l:List ByteArray} (h:StrsAt W v l) (hb:Below W.heap.size W W'):StrsAt W' v l:=by
 obtain ⟨a,c,rfl,hn,hs,h|⟨b,off,rfl,hlt,hc⟩⟩:=h
 · exact ⟨a,c,rfl,hn,hs,.inl h⟩
 · exact ⟨_,c,rfl,hn,hs,.inr ⟨b,off,rfl,Nat.lt_of_lt_of_le hlt hb.size,fun i hi=> (hb.cell (p:=⟨b,off + i,none⟩) hlt).trans (hc i hi)⟩⟩
theorem ImgsAt.below {W W':World} {v:Value} {ls:List (List ByteArray)} (h:ImgsAt W v ls) (hb:Below W.heap.size W W'):ImgsAt W' v ls:=by
 obtain ⟨a,c,rfl,hn,h|⟨b,off,rfl,hlt,hc⟩⟩:=h
 · exact ⟨a,c,rfl,hn,.inl h⟩
 · refine ⟨_,c,rfl,hn,.inr ⟨b,off,rfl,Nat.lt_of_lt_of_le hlt hb.size,fun i hi=> ?_⟩⟩
   obtain ⟨u,hu,hr⟩:=hc i hi
   exact ⟨u,(hb.cell (p:=⟨b,off + i,none⟩) hlt).trans hu,hr.below hb⟩
end Go.Proofs.YthgehdghihbiaaaGreatDoor
