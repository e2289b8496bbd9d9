/-
  Plain facts that the walks on Cartan matrices lean on; no program is spoken of.
-/
import Derived.Test.YtbmnnbglipkidaaGreatDoorOps2
import Derived.Test.YtbmnnbglipkidaaGreatDoorZ24
namespace Go.Proofs.YtbmnnbglipkidaaGreatDoor
set_option linter.unusedVariables false
set_option linter.unusedSimpArgs false
def posF {α:Type}(p:α→Bool)(xs:List α):Int:=match xs.findIdx? p with | some i=>(i:Int) | none => -1
theorem posF_none {α:Type}{p:α→Bool}{xs:List α}(h:xs.any p=false):posF p xs = -1:=by
  have:xs.findIdx? p=none:=by
    rw[List.findIdx?_eq_none_iff]
    intro x hx
    have:=List.any_eq_false.1 h x hx
    simpa using this
  simp[posF,this]
theorem posF_at {α:Type}{p:α→Bool}{xs:List α}{k:Nat}{d:α}(hk:k<xs.length)(h:(xs.take k).any p=false)(hp:p (xs.getD k d)=true):posF p xs=k:=by
  have:xs.findIdx? p=some k:=by
    rw[List.findIdx?_eq_some_iff_getElem]
    refine⟨hk,by simpa [List.getD,hk] using hp,fun j hj=>?_⟩
    have h2:=List.any_eq_false.1 h (xs[j]'(by omega)) (by
      rw[List.mem_take_iff_getElem]
      exact⟨j,by omega,rfl⟩)
    simpa using h2
  simp[posF,this]
theorem posF_lt {α:Type}{p:α→Bool}{xs:List α}:decide (posF p xs<0) = !(xs.any p):=by
  cases h:xs.any p with
  | false=>simp[posF_none h]
  | true =>
    have:∃ i,xs.findIdx? p=some i:=by
      rw[List.any_eq_true] at h
      obtain⟨x,hx,hp⟩:=h
      cases hf:xs.findIdx? p with
      | none =>
        rw[List.findIdx?_eq_none_iff] at hf
        have:=hf x hx
        simp[hp] at this
      | some i=>exact⟨i,rfl⟩
    obtain⟨i,hi⟩:=this
    simp[posF,hi]
theorem posF_ge {α:Type}{p:α→Bool}{xs:List α}:decide (0≤posF p xs)=xs.any p:=by
  have h:=posF_lt (p:=p) (xs:=xs)
  cases hx:xs.any p with
  | false=>rw[hx] at h;simp at h;simp;omega
  | true=>rw[hx] at h;simp at h;simp;omega
theorem any_take_succ {α:Type}{p:α→Bool}{xs:List α}{k:Nat}{d:α}(hk:k<xs.length)(h:(xs.take k).any p=false)(hp:p (xs.getD k d)=false):(xs.take (k+1)).any p=false:=by
  have e:xs.take (k+1)=xs.take k++[xs.getD k d]:=by
    rw[List.take_add_one,List.getElem?_eq_getElem hk]
    simp[List.getD,hk]
  rw[e,List.any_append,h]
  simpa using hp
theorem any_take_all {α:Type}{p:α→Bool}{xs:List α}{k:Nat}(hk:xs.length≤k)(h:(xs.take k).any p=false):xs.any p=false:=by rwa [List.take_of_length_le hk] at h
def posI (xs:List Int)(x:Int):Int:=posF (x == ·) xs
def posS (xs:List ByteArray)(s:ByteArray):Int:=posF (strEq s ·) xs
def hasS (xs:List ByteArray)(s:ByteArray):Bool:=xs.any (strEq s ·)
theorem posI_lt (xs:List Int)(x:Int):decide (posI xs x<0) = !(xs.contains x):=by rw[posI,posF_lt,List.contains_eq_any_beq]
theorem posI_ge (xs:List Int)(x:Int):decide (0≤posI xs x)=xs.contains x:=by rw[posI,posF_ge,List.contains_eq_any_beq]
theorem beqI_ne {a b:Int}(h:a≠b):(a==b)=false:=by simpa using h
theorem foldl_succ {α:Type}(f:α→Nat→α)(a:α)(k:Nat):(List.range (k+1)).foldl f a=f ((List.range k).foldl f a) k:=by
  rw[List.range_succ,List.foldl_append]
  rfl
theorem any_succ {p:Nat→Bool}{k:Nat}(h:(List.range k).any p=false)(hp:p k=false):(List.range (k+1)).any p=false:=by
  rw[List.range_succ,List.any_append,h]
  simp[hp]
theorem any_hit {p:Nat→Bool}{k n:Nat}(hk:k<n)(hp:p k=true):(List.range n).any p=true:=List.any_eq_true.2 ⟨k,List.mem_range.2 hk,hp⟩
def nameB (k:Nat):ByteArray:=([⟨#[65,49]⟩,⟨#[65,50]⟩,⟨#[65,51]⟩,⟨#[65,52]⟩,⟨#[66,50]⟩,⟨#[66,51]⟩,⟨#[66,52]⟩,⟨#[67,51]⟩,⟨#[67,52]⟩,⟨#[68,52]⟩,⟨#[70,52]⟩,⟨#[71,50]⟩]:List ByteArray).getD k ⟨#[]⟩
def nameL:List ByteArray:=[⟨#[65,49]⟩,⟨#[65,50]⟩,⟨#[65,51]⟩,⟨#[65,52]⟩,⟨#[66,50]⟩,⟨#[66,51]⟩,⟨#[66,52]⟩,⟨#[67,51]⟩,⟨#[67,52]⟩,⟨#[68,52]⟩,⟨#[70,52]⟩,⟨#[71,50]⟩]
theorem nameL_get (k:Nat):nameL.getD k ⟨#[]⟩=nameB k:=rfl
def nameNo (s:ByteArray):Option Nat:=nameL.findIdx? (strEq s ·)
theorem hasS_no (s:ByteArray):hasS nameL s=(nameNo s).isSome:=by
  unfold hasS nameNo
  cases h:nameL.findIdx? (strEq s ·) with
  | none =>
    rw[List.findIdx?_eq_none_iff] at h
    simpa [List.any_eq_false] using h
  | some i =>
    rw[List.findIdx?_eq_some_iff_getElem] at h
    obtain⟨h1,h2,_⟩:=h
    simp only[Option.isSome_some]
    exact List.any_eq_true.2 ⟨_,List.getElem_mem h1,h2⟩
theorem toList_data (s:ByteArray):s.toList=s.data.toList:=by
  have key:∀ (m i:Nat) (r:List UInt8),s.size - i=m→ByteArray.toList.loop s i r=r.reverse++s.data.toList.drop i:=by
    intro m
    induction m with
    | zero =>
      intro i r hm
      unfold ByteArray.toList.loop
      have : ¬ i<s.size:=by omega
      rw[if_neg this]
      have hd:s.data.toList.drop i = []:=List.drop_eq_nil_of_le (by rw[Array.length_toList];have:s.data.size=s.size:=rfl;omega)
      rw[hd]
      simp
    | succ m ih =>
      intro i r hm
      unfold ByteArray.toList.loop
      have hi:i<s.size:=by omega
      rw[if_pos hi,ih (i+1) _ (by omega)]
      have hi':i<s.data.toList.length:=by rw[Array.length_toList];exact hi
      rw[List.drop_eq_getElem_cons hi',List.reverse_cons,List.append_assoc]
      congr 1
      simp[ByteArray.get!,hi]
  have:=key s.size 0 [] (by omega)
  simpa [ByteArray.toList] using this
theorem strEq_eq {a b:ByteArray}(h:strEq a b=true):a=b:=by
  simp only[strEq,beq_iff_eq,toList_data] at h
  exact congrArg ByteArray.mk (Array.toList_inj.1 h)
theorem nameNo_some {s:ByteArray}{k:Nat}(h:nameNo s=some k):k<12∧s=nameB k:=by
  unfold nameNo at h
  rw[List.findIdx?_eq_some_iff_getElem] at h
  obtain⟨h1,h2,_⟩:=h
  have e:=strEq_eq h2
  refine⟨h1,e.trans ?_⟩
  rw[← nameL_get]
  simp[List.getD,h1]
theorem nm_rk:∀ k,k<12→IntKind.u8.wrap (bAt (nameB k) 1 - 48)=(rk k:Nat):=by decide
theorem nm_sz:∀ k,k<12→(nameB k).size=2:=by decide
theorem nm_D4:∀ k,k<12→strEq (nameB k) ⟨#[68,52]⟩=(k==9):=by
  simp only[strEq,toList_data]
  decide
theorem nm_D:∀ k,k<12→(bAt (nameB k) 0 != 68)=(k != 9):=by decide
theorem rk_bd:∀ k,k<12→1≤rk k∧rk k≤4:=by decide
theorem fold_next {α:Type}{f:α→Nat→α}{a x y:α}{k:Nat}(h:x=(List.range k).foldl f a)(hy:y=f x k):y=(List.range (k+1)).foldl f a:=by
  rw[foldl_succ,← h]
  exact hy
theorem idx_bd {n i j:Int}(hi:0≤i∧i<n)(hj:0≤j∧j<n)(hn:n≤1000):0≤i*n∧i*n≤1000000∧0≤i*n+j∧i*n+j<n*n∧n*n≤1000000:=by
  have h1:0≤i*n:=Int.mul_nonneg hi.1 (by omega)
  have h2:i*n≤(n - 1)*n:=Int.mul_le_mul_of_nonneg_right (by omega) (by omega)
  have h3:(n - 1)*n=n*n - n:=by rw[Int.sub_mul,Int.one_mul]
  have h4:n*n≤1000*1000:=Int.mul_le_mul hn hn (by omega) (by omega)
  omega
def putF (n:Int)(o:List Int)(i j v:Int):List Int:=o.set ((i - 1)*n+j - 1).toNat v
def bothF (n:Int)(o:List Int)(i j:Int):List Int:=putF n (putF n o i j (-1)) j i (-1)
def itI (k:Nat)(o:List Int)(q:Nat):List Int:=if (q:Int)+1<rk k∧k≠9 then bothF (rk k) (putF (rk k) o (q+1) (q+1) 2) (q+1) (q+1+1) else putF (rk k) o (q+1) (q+1) 2
theorem putF_len (n:Int)(o:List Int)(i j v:Int):(putF n o i j v).length=o.length:=by simp[putF]
theorem bothF_len (n:Int)(o:List Int)(i j:Int):(bothF n o i j).length=o.length:=by simp[bothF,putF_len]
def preI (k:Nat):List Int:=(List.range (rk k)).foldl (itI k) (List.replicate ((rk k:Int)*(rk k:Int)).toNat 0)
theorem endB:∀ k,k<12→bAt (nameB k) 0=66→putF (rk k) (preI k) (rk k) ((rk k:Int) - 1) (-2)=oneD k:=by decide
theorem endC:∀ k,k<12→bAt (nameB k) 0=67→putF (rk k) (preI k) ((rk k:Int) - 1) (rk k) (-2)=oneD k:=by decide
theorem endF:∀ k,k<12→bAt (nameB k) 0=70→putF (rk k) (preI k) 3 2 (-2)=oneD k∧rk k=4:=by decide
theorem endG:∀ k,k<12→bAt (nameB k) 0=71→putF (rk k) (preI k) 1 2 (-3)=oneD k∧rk k=2:=by decide
theorem endD:∀ k,k<12→bAt (nameB k) 0=68→bothF (rk k) (bothF (rk k) (bothF (rk k) (preI k) 2 1) 2 3) 2 4=oneD k∧rk k=4:=by decide
theorem endA:∀ k,k<12→(bAt (nameB k) 0≠66∧bAt (nameB k) 0≠67∧bAt (nameB k) 0≠70∧bAt (nameB k) 0≠71∧bAt (nameB k) 0≠68)→preI k=oneD k:=by decide
theorem rk_B:∀ k,k<12→bAt (nameB k) 0=66→2≤rk k:=by decide
theorem rk_C:∀ k,k<12→bAt (nameB k) 0=67→2≤rk k:=by decide
def itS (k:Nat)(o:List Int)(q:Nat):List Int :=
  if (q:Int)+1<rk k∧k≠9 then((o.set ((q:Int)*rk k+q).toNat 2).set ((q:Int)*rk k+q+1).toNat (-1)).set (((q:Int)+1)*rk k+q).toNat (-1) else o.set ((q:Int)*rk k+q).toNat 2
def preS (k:Nat):List Int:=(List.range (rk k)).foldl (itS k) (List.replicate ((rk k:Int)*(rk k:Int)).toNat 0)
def itD (k:Nat)(o:List Int)(q:Nat):List Int:=if (q:Int)≠1 then(o.set ((rk k:Int)+q).toNat (-1)).set ((q:Int)*rk k+1).toNat (-1) else o
theorem sndB:∀ k,k<12→bAt (nameB k) 0=66→(preS k).set (((rk k:Int) - 1)*rk k+rk k - 2).toNat (-2)=oneD k:=by decide
theorem sndC:∀ k,k<12→bAt (nameB k) 0=67→(preS k).set (((rk k:Int) - 2)*rk k+rk k - 1).toNat (-2)=oneD k:=by decide
theorem sndF:∀ k,k<12→bAt (nameB k) 0=70→(preS k).set (2*(rk k:Int)+1).toNat (-2)=oneD k∧rk k=4:=by decide
theorem sndG:∀ k,k<12→bAt (nameB k) 0=71→(preS k).set 1 (-3)=oneD k∧rk k=2:=by decide
theorem sndD:∀ k,k<12→bAt (nameB k) 0=68→(List.range 4).foldl (itD k) (preS k)=oneD k∧rk k=4:=by decide
theorem sndA:∀ k,k<12→(bAt (nameB k) 0≠66∧bAt (nameB k) 0≠67∧bAt (nameB k) 0≠70∧bAt (nameB k) 0≠71∧bAt (nameB k) 0≠68)→preS k=oneD k:=by decide
def partR (s:ByteArray):Int:=match nameNo s with | some k=>(rk k:Nat) | none=>0
def partD (s:ByteArray):List Int:=match nameNo s with | some k=>oneD k | none=>[]
theorem oneD_len:∀ k,k<12→(oneD k).length=rk k*rk k:=by decide
theorem part_none {s:ByteArray}(h:hasS nameL s=false):partR s=0∧partD s = []∧(nameNo s).isSome=false:=by
  rw[hasS_no] at h
  have:nameNo s=none:=by simpa using h
  simp[partR,partD,this]
theorem hasS_some {s:ByteArray}(h:hasS nameL s=true):∃ k,nameNo s=some k:=by
  rw[hasS_no] at h
  exact Option.isSome_iff_exists.1 h
end Go.Proofs.YtbmnnbglipkidaaGreatDoor
