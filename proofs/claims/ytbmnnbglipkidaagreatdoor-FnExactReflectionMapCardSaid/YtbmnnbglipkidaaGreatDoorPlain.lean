/-
  Plain facts on lists and numbers, without a program.
-/
import Derived.Test.YtbmnnbglipkidaaGreatDoorPar
namespace Go.Proofs.YtbmnnbglipkidaaGreatDoor
set_option linter.unusedVariables false
set_option linter.unusedSimpArgs false
theorem Ex (xs:List Int)(k:Nat)(h:k<xs.length):xs.take (k+1)=xs.take k++[xs.getD k 0]:=by
  rw[List.take_add_one,List.getElem?_eq_getElem h]
  simp[List.getD,h]
theorem Ln {xs:List Int}{k:Nat}(hk:k<xs.length):(xs.take k++List.replicate (xs.length - k) 0).set k (xs.getD k 0)=xs.take (k+1)++List.replicate (xs.length - (k+1)) 0:=by
  have hr:xs.length - k=(xs.length - (k+1))+1:=by omega
  have h0:k - min k xs.length=0:=by omega
  rw[Ex xs k hk,hr,List.replicate_succ,List.set_append_right _ _ (by simp;omega)]
  simp[h0]
theorem Og {xs ys:List Int}{k:Nat}(hE:xs.take k=ys.take k)(h1:k<xs.length)(h2:k<ys.length)(he:xs.getD k 0=ys.getD k 0):xs.take (k+1)=ys.take (k+1):=by
  rw[Ex xs k h1,Ex ys k h2,hE,he]
theorem Nv {α:Type}{xs ys:List α}{n:Nat}(hE:xs.take n=ys.take n)(h1:xs.length≤n)(h2:ys.length≤n):xs=ys:=by
  rwa [List.take_of_length_le h1,List.take_of_length_le h2] at hE
theorem RE {xs ys:List Int}{k:Nat}(he:xs.getD k 0≠ys.getD k 0):xs≠ys:=fun h=>he (by rw[h])
def Cu (xs ys:List Int):Bool:=decide (xs=ys)
theorem Rz {xs ys:List Int}(h:xs=ys):Cu xs ys=true:=by simpa [Cu] using h
theorem Gz {xs ys:List Int}(h:xs≠ys):Cu xs ys=false:=by simpa [Cu] using h
def VM (n:Nat)(left:Int):Int:=if left<n then -1 else left - n
def OT (k:Int)(n:Nat):List Int:=(List.range n).map fun(i:Nat)=>k+(i:Int)
theorem MI (k:Int)(n:Nat):(OT k n).length=n:=by simp[OT]
theorem YS {xs:List Int}{q:Int}{k:Nat}(hk:k<xs.length) :
    (OT q k++xs.drop k).set k (q+k)=OT q (k+1)++xs.drop (k+1):=by
  have hd:xs.drop k=xs[k]'(by omega)::xs.drop (k+1):=List.drop_eq_getElem_cons (by omega)
  rw[hd,List.set_append_right _ _ (by simp[MI])]
  have h0:k - (OT q k).length=0:=by simp[MI]
  rw[h0,List.set_cons_zero]
  simp[OT,List.range_succ]
theorem YO (q:Int)(k n:Nat)(h:k<n):(OT q n).getD k 0=q+k:=by
  simp[OT,List.getD,h]
theorem int_eq {a b:Int}(h:a=b):some (Value.int .i64 a)=some (Value.int .i64 b):=by rw[h]
theorem Ai {b:Bool}(h:(!b)=true):b=false:=by simpa using h
theorem Am {b:Bool}(h:(!b)=false):b=true:=by simpa using h
theorem gz {a b:Int}(h:a=b):(a != b)=false:=by simp[h]
theorem GQ (a:Bool):(a != a)=false:=by simp
theorem CE (a:Int):(a != a)=false:=by simp
theorem aM {n:Nat}{q:Int}(h : ¬ VM n q<0):(n:Int)≤q∧VM n q=q - n:=by
  unfold VM at h ⊢
  split at h
  · omega
  · rename_i h1
    rw[if_neg h1]
    omega
theorem ca {n:Nat}{q:Int}(h:VM n q<0):VM n q = -1:=by
  unfold VM at h ⊢
  split at h
  · rename_i h1
    rw[if_pos h1]
  · omega
end Go.Proofs.YtbmnnbglipkidaaGreatDoor
