/-
  Plain facts that the walks on Cartan matrices lean on; no program is spoken of.
-/
import Derived.Test.YtbmnnbglipkidaaGreatDoorZ57
namespace Go.Proofs.YtbmnnbglipkidaaGreatDoor
set_option linter.unusedVariables false
set_option linter.unusedSimpArgs false
def Hs {α:Type}(p:α→Bool)(xs:List α):Int:=match xs.findIdx? p with | some i=>(i:Int) | none => -1
theorem D2 {α:Type}{p:α→Bool}{xs:List α}(h:xs.any p=false):Hs p xs = -1:=by
  have:xs.findIdx? p=none:=by
    rw[List.findIdx?_eq_none_iff]
    intro x hx
    have:=List.any_eq_false.1 h x hx
    simpa using this
  simp[Hs,this]
theorem Gu {α:Type}{p:α→Bool}{xs:List α}{k:Nat}{d:α}(hk:k<xs.length)(h:(xs.take k).any p=false)(hp:p (xs.getD k d)=true):Hs p xs=k:=by
  have:xs.findIdx? p=some k:=by
    rw[List.findIdx?_eq_some_iff_getElem]
    refine⟨hk,by simpa [List.getD,hk] using hp,fun j hj=>?_⟩
    have h2:=List.any_eq_false.1 h (xs[j]'(by omega)) (by
      rw[List.mem_take_iff_getElem]
      exact⟨j,by omega,rfl⟩)
    simpa using h2
  simp[Hs,this]
theorem Mo {α:Type}{p:α→Bool}{xs:List α}:decide (Hs p xs<0) = !(xs.any p):=by
  cases h:xs.any p with
  | false=>simp[D2 h]
  | true =>
    have:∃ i,xs.findIdx? p=some i:=by
      rw[List.any_eq_true] at h
      obtain⟨x,hx,hp⟩:=h
      cases hf:xs.findIdx? p with
      | none =>
        rw[List.findIdx?_eq_none_iff] at hf
        have:=hf x hx
        simp[hp] at this
      | some i=>exact⟨i,rfl⟩
    obtain⟨i,hi⟩:=this
    simp[Hs,hi]
theorem posF_ge {α:Type}{p:α→Bool}{xs:List α}:decide (0≤Hs p xs)=xs.any p:=by
  have h:=Mo (p:=p) (xs:=xs)
  cases hx:xs.any p with
  | false=>rw[hx] at h;simp at h;simp;omega
  | true=>rw[hx] at h;simp at h;simp;omega
theorem any_take_succ {α:Type}{p:α→Bool}{xs:List α}{k:Nat}{d:α}(hk:k<xs.length)(h:(xs.take k).any p=false)(hp:p (xs.getD k d)=false):(xs.take (k+1)).any p=false:=by
  have e:xs.take (k+1)=xs.take k++[xs.getD k d]:=by
    rw[List.take_add_one,List.getElem?_eq_getElem hk]
    simp[List.getD,hk]
  rw[e,List.any_append,h]
  simpa using hp
theorem Cj {α:Type}{p:α→Bool}{xs:List α}{k:Nat}(hk:xs.length≤k)(h:(xs.take k).any p=false):xs.any p=false:=by rwa [List.take_of_length_le hk] at h
def Hr (xs:List Int)(x:Int):Int:=Hs (x == ·) xs
def Y2 (xs:List ByteArray)(s:ByteArray):Int:=Hs (Cb s ·) xs
def SX (xs:List ByteArray)(s:ByteArray):Bool:=xs.any (Cb s ·)
theorem Xo (xs:List Int)(x:Int):decide (Hr xs x<0) = !(xs.contains x):=by rw[Hr,Mo,List.contains_eq_any_beq]
theorem posI_ge (xs:List Int)(x:Int):decide (0≤Hr xs x)=xs.contains x:=by rw[Hr,posF_ge,List.contains_eq_any_beq]
theorem HD {a b:Int}(h:a≠b):(a==b)=false:=by simpa using h
theorem A6 {α:Type}(f:α→Nat→α)(a:α)(k:Nat):(List.range (k+1)).foldl f a=f ((List.range k).foldl f a) k:=by
  rw[List.range_succ,List.foldl_append]
  rfl
theorem any_succ {p:Nat→Bool}{k:Nat}(h:(List.range k).any p=false)(hp:p k=false):(List.range (k+1)).any p=false:=by
  rw[List.range_succ,List.any_append,h]
  simp[hp]
theorem M8 {p:Nat→Bool}{k n:Nat}(hk:k<n)(hp:p k=true):(List.range n).any p=true:=List.any_eq_true.2 ⟨k,List.mem_range.2 hk,hp⟩
def Ap (k:Nat):ByteArray:=([⟨#[65,49]⟩,⟨#[65,50]⟩,⟨#[65,51]⟩,⟨#[65,52]⟩,⟨#[66,50]⟩,⟨#[66,51]⟩,⟨#[66,52]⟩,⟨#[67,51]⟩,⟨#[67,52]⟩,⟨#[68,52]⟩,⟨#[70,52]⟩,⟨#[71,50]⟩]:List ByteArray).getD k ⟨#[]⟩
def Bp:List ByteArray:=[⟨#[65,49]⟩,⟨#[65,50]⟩,⟨#[65,51]⟩,⟨#[65,52]⟩,⟨#[66,50]⟩,⟨#[66,51]⟩,⟨#[66,52]⟩,⟨#[67,51]⟩,⟨#[67,52]⟩,⟨#[68,52]⟩,⟨#[70,52]⟩,⟨#[71,50]⟩]
theorem Sg (k:Nat):Bp.getD k ⟨#[]⟩=Ap k:=rfl
def nameNo (s:ByteArray):Option Nat:=Bp.findIdx? (Cb s ·)
theorem QU (s:ByteArray):SX Bp s=(nameNo s).isSome:=by
  unfold SX nameNo
  cases h:Bp.findIdx? (Cb s ·) with
  | none =>
    rw[List.findIdx?_eq_none_iff] at h
    simpa [List.any_eq_false] using h
  | some i =>
    rw[List.findIdx?_eq_some_iff_getElem] at h
    obtain⟨h1,h2,_⟩:=h
    simp only[Option.isSome_some]
    exact List.any_eq_true.2 ⟨_,List.getElem_mem h1,h2⟩
theorem toList_data (s:ByteArray):s.toList=s.data.toList:=by
  have key:∀ (m i:Nat) (r:List UInt8),s.size - i=m→ByteArray.toList.loop s i r=r.reverse++s.data.toList.drop i:=by
    intro m
    induction m with
    | zero =>
      intro i r hm
      unfold ByteArray.toList.loop
      have : ¬ i<s.size:=by omega
      rw[if_neg this]
      have hd:s.data.toList.drop i = []:=List.drop_eq_nil_of_le (by rw[Array.length_toList];have:s.data.size=s.size:=rfl;omega)
      rw[hd]
      simp
    | succ m ih =>
      intro i r hm
      unfold ByteArray.toList.loop
      have hi:i<s.size:=by omega
      rw[if_pos hi,ih (i+1) _ (by omega)]
      have hi':i<s.data.toList.length:=by rw[Array.length_toList];exact hi
      rw[List.drop_eq_getElem_cons hi',List.reverse_cons,List.append_assoc]
      congr 1
      simp[ByteArray.get!,hi]
  have:=key s.size 0 [] (by omega)
  simpa [ByteArray.toList] using this
theorem UU {a b:ByteArray}(h:Cb a b=true):a=b:=by
  simp only[Cb,beq_iff_eq,toList_data] at h
  exact congrArg ByteArray.mk (Array.toList_inj.1 h)
theorem EW {s:ByteArray}{k:Nat}(h:nameNo s=some k):k<12∧s=Ap k:=by
  unfold nameNo at h
  rw[List.findIdx?_eq_some_iff_getElem] at h
  obtain⟨h1,h2,_⟩:=h
  have e:=UU h2
  refine⟨h1,e.trans ?_⟩
  rw[← Sg]
  simp[List.getD,h1]
theorem NK:∀ k,k<12→IntKind.u8.wrap (CW (Ap k) 1 - 48)=(rk k:Nat):=by decide
theorem Rk:∀ k,k<12→(Ap k).size=2:=by decide
theorem fh:∀ k,k<12→Cb (Ap k) ⟨#[68,52]⟩=(k==9):=by
  simp only[Cb,toList_data]
  decide
theorem gg:∀ k,k<12→(CW (Ap k) 0 != 68)=(k != 9):=by decide
theorem Ga:∀ k,k<12→1≤rk k∧rk k≤4:=by decide
theorem Ar {α:Type}{f:α→Nat→α}{a x y:α}{k:Nat}(h:x=(List.range k).foldl f a)(hy:y=f x k):y=(List.range (k+1)).foldl f a:=by
  rw[A6,← h]
  exact hy
theorem Be {n i j:Int}(hi:0≤i∧i<n)(hj:0≤j∧j<n)(hn:n≤1000):0≤i*n∧i*n≤1000000∧0≤i*n+j∧i*n+j<n*n∧n*n≤1000000:=by
  have h1:0≤i*n:=Int.mul_nonneg hi.1 (by omega)
  have h2:i*n≤(n - 1)*n:=Int.mul_le_mul_of_nonneg_right (by omega) (by omega)
  have h3:(n - 1)*n=n*n - n:=by rw[Int.sub_mul,Int.one_mul]
  have h4:n*n≤1000*1000:=Int.mul_le_mul hn hn (by omega) (by omega)
  omega
def D5 (n:Int)(o:List Int)(i j v:Int):List Int:=o.set ((i - 1)*n+j - 1).toNat v
def ED (n:Int)(o:List Int)(i j:Int):List Int:=D5 n (D5 n o i j (-1)) j i (-1)
def itI (k:Nat)(o:List Int)(q:Nat):List Int:=if (q:Int)+1<rk k∧k≠9 then ED (rk k) (D5 (rk k) o (q+1) (q+1) 2) (q+1) (q+1+1) else D5 (rk k) o (q+1) (q+1) 2
theorem Bu (n:Int)(o:List Int)(i j v:Int):(D5 n o i j v).length=o.length:=by simp[D5]
theorem BB (n:Int)(o:List Int)(i j:Int):(ED n o i j).length=o.length:=by simp[ED,Bu]
def Sw (k:Nat):List Int:=(List.range (rk k)).foldl (itI k) (List.replicate ((rk k:Int)*(rk k:Int)).toNat 0)
theorem gy:∀ k,k<12→CW (Ap k) 0=66→D5 (rk k) (Sw k) (rk k) ((rk k:Int) - 1) (-2)=oneD k:=by decide
theorem gC:∀ k,k<12→CW (Ap k) 0=67→D5 (rk k) (Sw k) ((rk k:Int) - 1) (rk k) (-2)=oneD k:=by decide
theorem dR:∀ k,k<12→CW (Ap k) 0=70→D5 (rk k) (Sw k) 3 2 (-2)=oneD k∧rk k=4:=by decide
theorem eG:∀ k,k<12→CW (Ap k) 0=71→D5 (rk k) (Sw k) 1 2 (-3)=oneD k∧rk k=2:=by decide
theorem eT:∀ k,k<12→CW (Ap k) 0=68→ED (rk k) (ED (rk k) (ED (rk k) (Sw k) 2 1) 2 3) 2 4=oneD k∧rk k=4:=by decide
theorem gu:∀ k,k<12→(CW (Ap k) 0≠66∧CW (Ap k) 0≠67∧CW (Ap k) 0≠70∧CW (Ap k) 0≠71∧CW (Ap k) 0≠68)→Sw k=oneD k:=by decide
theorem fb:∀ k,k<12→CW (Ap k) 0=66→2≤rk k:=by decide
theorem fJ:∀ k,k<12→CW (Ap k) 0=67→2≤rk k:=by decide
def itS (k:Nat)(o:List Int)(q:Nat):List Int :=
  if (q:Int)+1<rk k∧k≠9 then((o.set ((q:Int)*rk k+q).toNat 2).set ((q:Int)*rk k+q+1).toNat (-1)).set (((q:Int)+1)*rk k+q).toNat (-1) else o.set ((q:Int)*rk k+q).toNat 2
def SQ (k:Nat):List Int:=(List.range (rk k)).foldl (itS k) (List.replicate ((rk k:Int)*(rk k:Int)).toNat 0)
def itD (k:Nat)(o:List Int)(q:Nat):List Int:=if (q:Int)≠1 then(o.set ((rk k:Int)+q).toNat (-1)).set ((q:Int)*rk k+1).toNat (-1) else o
theorem gB:∀ k,k<12→CW (Ap k) 0=66→(SQ k).set (((rk k:Int) - 1)*rk k+rk k - 2).toNat (-2)=oneD k:=by decide
theorem gx:∀ k,k<12→CW (Ap k) 0=67→(SQ k).set (((rk k:Int) - 2)*rk k+rk k - 1).toNat (-2)=oneD k:=by decide
theorem dS:∀ k,k<12→CW (Ap k) 0=70→(SQ k).set (2*(rk k:Int)+1).toNat (-2)=oneD k∧rk k=4:=by decide
theorem fB:∀ k,k<12→CW (Ap k) 0=71→(SQ k).set 1 (-3)=oneD k∧rk k=2:=by decide
theorem dP:∀ k,k<12→CW (Ap k) 0=68→(List.range 4).foldl (itD k) (SQ k)=oneD k∧rk k=4:=by decide
theorem gD:∀ k,k<12→(CW (Ap k) 0≠66∧CW (Ap k) 0≠67∧CW (Ap k) 0≠70∧CW (Ap k) 0≠71∧CW (Ap k) 0≠68)→SQ k=oneD k:=by decide
def BI (s:ByteArray):Int:=match nameNo s with | some k=>(rk k:Nat) | none=>0
def Dt (s:ByteArray):List Int:=match nameNo s with | some k=>oneD k | none=>[]
theorem Nx:∀ k,k<12→(oneD k).length=rk k*rk k:=by decide
theorem SB {s:ByteArray}(h:SX Bp s=false):BI s=0∧Dt s = []∧(nameNo s).isSome=false:=by
  rw[QU] at h
  have:nameNo s=none:=by simpa using h
  simp[BI,Dt,this]
theorem Si {s:ByteArray}(h:SX Bp s=true):∃ k,nameNo s=some k:=by
  rw[QU] at h
  exact Option.isSome_iff_exists.1 h
def nameBs (k:Nat):List UInt8:=(Ap k).data.toList
def nameNoL (l:List UInt8):Option Nat:=(List.range 12).find? fun k=>nameBs k==l
theorem Dh {l:List UInt8}{k:Nat}(h:nameNoL l=some k):k<12∧l=nameBs k:=by
  have h1:=List.mem_of_find?_eq_some h
  have h2:=List.find?_some h
  simp only[beq_iff_eq] at h2
  exact⟨by simpa using h1,h2.symm⟩
theorem K2:∀ k,k<12→(nameBs k).length=2∧(43:UInt8) ∉ nameBs k:=by decide
theorem DN {l:List UInt8}(h:l.length≠2):nameNoL l=none:=by
  cases hh:nameNoL l with
  | none=>rfl
  | some k =>
    obtain⟨h1,h2⟩:=Dh hh
    exact absurd (h2 ▸ (K2 k h1).1) h
theorem MS {l:List UInt8}(h:(43:UInt8)∈l):nameNoL l=none:=by
  cases hh:nameNoL l with
  | none=>rfl
  | some k =>
    obtain⟨h1,h2⟩:=Dh hh
    exact absurd (h2 ▸ h) (K2 k h1).2
theorem OM:Bp=(List.range 12).map Ap:=rfl
theorem TQ (s:ByteArray):nameNo s=nameNoL s.data.toList:=by
  have key:∀ m,m≤12→((List.range 12).drop m).find? (fun k=>nameBs k==s.data.toList)=(((List.range 12).drop m).map Ap |>.findIdx? (Cb s ·)).map (· + m):=by
    intro m hm
    induction hn:12 - m generalizing m with
    | zero =>
      have:m=12:=by omega
      subst this
      rfl
    | succ d ih =>
      have hlt:m<(List.range 12).length:=by simp;omega
      rw[List.drop_eq_getElem_cons hlt]
      have e1:(List.range 12)[m]=m:=by simp
      have e2:Cb s (Ap m)=(nameBs m==s.data.toList):=by
        unfold Cb nameBs
        rw[toList_data,toList_data]
        exact BEq.comm
      rw[e1,List.find?_cons,List.map_cons,List.findIdx?_cons,e2]
      cases nameBs m==s.data.toList with
      | true=>simp
      | false =>
        simp only[Bool.false_eq_true,if_false]
        rw[ih (m+1) (by omega) (by omega)]
        cases (List.findIdx? (fun x=>Cb s x) (List.map Ap (List.drop (m+1) (List.range 12)))) with
        | none=>rfl
        | some i=>simp;omega
  have:=key 0 (by omega)
  simp only[List.drop_zero] at this
  rw[nameNoL,this,nameNo,OM]
  cases List.findIdx? (fun x=>Cb s x) (List.map Ap (List.range 12)) <;> simp
def spl:List UInt8→List (List UInt8)
  | []=>[[]]
  | c::t=>if c=43 then[]::spl t else match spl t with
    | p::ps=>(c::p)::ps
    | []=>[[c]]
theorem QI:∀ {l:List UInt8},(43:UInt8) ∉ l→spl l = [l]
  | [],_=>rfl
  | c::t,h=>by
    have h1:c≠43:=fun e=>h (by simp[e])
    have h2:=QI (l:=t) fun hh=>h (by simp[hh])
    unfold spl
    rw[if_neg h1,h2]
theorem Ro:∀ {p r:List UInt8},(43:UInt8) ∉ p→spl (p++43::r)=p::spl r
  | [],r,_=>by simp[spl]
  | c::t,r,h=>by
    have h1:c≠43:=fun e=>h (by simp[e])
    have h2:=Ro (p:=t) (r:=r) fun hh=>h (by simp[hh])
    rw[List.cons_append,spl,if_neg h1,h2]
theorem spl_cases (l:List UInt8):((43:UInt8) ∉ l∧spl l = [l])∨∃ p r,l=p++43::r∧(43:UInt8) ∉ p∧spl l=p::spl r:=by
  induction l with
  | nil=>exact .inl ⟨by simp,rfl⟩
  | cons c t ih =>
    by_cases h:c=43
    · exact .inr ⟨[],t,by simp[h],by simp,by simp[spl,h]⟩
    · rcases ih with⟨h1,_⟩ | ⟨p,r,h1,h2,_⟩
      · have:(43:UInt8) ∉ c::t:=by
          intro hh
          rcases List.mem_cons.1 hh with e | hh
          · exact h e.symm
          · exact h1 hh
        exact .inl ⟨this,QI this⟩
      · have:(43:UInt8) ∉ c::p:=by
          intro hh
          rcases List.mem_cons.1 hh with e | hh
          · exact h e.symm
          · exact h2 hh
        refine .inr ⟨c::p,r,by simp[h1],this,?_⟩
        rw[h1,← List.cons_append]
        exact Ro this
theorem Lv:∀ {p r:List UInt8},(43:UInt8) ∉ p→Lib.index (p++43::r) [43]=p.length
  | [],r,_=>by simp[Lib.index,List.isPrefixOf]
  | c::t,r,h=>by
    have h1:c≠43:=fun e=>h (by simp[e])
    have h2:=Lv (p:=t) (r:=r) fun hh=>h (by simp[hh])
    rw[List.cons_append]
    unfold Lib.index
    have h3 : ¬ (((t.length:Nat):Int) = -1):=by omega
    simp[List.isPrefixOf,Ne.symm h1,h2,h3]
theorem Vc {l:List UInt8}(h:(43:UInt8) ∉ l):Lib.count l [43]=0:=by
  rw[Lib.count_one]
  exact List.count_eq_zero.2 h
theorem Sp {p r:List UInt8}(h:(43:UInt8) ∉ p):Lib.count (p++43::r) [43]=Lib.count r [43]+1:=by
  rw[Lib.count_one,Lib.count_one,List.count_append,List.count_eq_zero.2 h]
  simp
theorem Px:∀ (m:Nat) (l:List UInt8),l.length≤m→Lib.splitK [43] 0 (Lib.count l [43]) l=spl l:=by
  intro m
  induction m with
  | zero =>
    intro l hl
    have:l = []:=List.eq_nil_of_length_eq_zero (by omega)
    subst this
    rfl
  | succ m ih =>
    intro l hl
    rcases spl_cases l with⟨h1,h2⟩ | ⟨p,r,h1,h2,h3⟩
    · rw[Vc h1,h2]
      rfl
    · rw[h3]
      subst h1
      have hr:r.length≤m:=by simp at hl;omega
      rw[Sp h2]
      unfold Lib.splitK
      rw[Lv h2]
      have hne : ¬ ((((p.length:Nat):Int) == -1)=true):=by simp
      rw[if_neg hne]
      have e1:((p.length:Nat):Int).toNat=p.length:=by omega
      rw[e1,Nat.add_zero,List.take_left' rfl]
      have e2:(p++43::r).drop (p.length+([43]:List UInt8).length)=r:=by
        rw[← List.drop_drop,List.drop_left' rfl]
        rfl
      rw[e2,ih r hr]
theorem Lc (s:ByteArray):(Ae s).map (·.data.toList)=spl s.data.toList:=by
  unfold Ae
  rw[Lib.splitB_data]
  have:Lib.countB s ⟨#[43]⟩=Lib.count s.data.toList [43]:=rfl
  rw[this]
  exact Px _ _ (Nat.le_refl _)
def OQ (xs:List ByteArray):Option (List Nat):=xs.mapM nameNo
theorem ZM (xs:List ByteArray):OQ xs=(xs.map (·.data.toList)).mapM nameNoL:=by
  unfold OQ
  induction xs with
  | nil=>rfl
  | cons x xs ih=>simp only[List.map_cons,List.mapM_cons,TQ,ih]
def cI (s:ByteArray):Option (List Nat):=(OQ (Ae s)).bind fun ks=>if 4<rkS ks then none else some ks
def Mc:Nat→List Nat→List UInt8→Option (List Nat)
  | 0,_,_=>none
  | f+1,ks,R=>if R = [] then(if rkS ks=0 then none else some ks) else
      if R.length<2∨(2<R.length∧(R[2]?≠some 43∨R.length=3)) then none else(nameNoL (R.take 2)).bind fun k=>if 4<rkS (ks++[k]) then none else Mc f (ks++[k]) (R.drop 3)
def cF (s:ByteArray):Option (List Nat):=Mc 6 [] s.data.toList
theorem R3 (l:List Nat):∀ a,l.foldl (· + ·) a=a+l.foldl (· + ·) 0:=by
  induction l with
  | nil=>simp
  | cons x l ih =>
    intro a
    simp only[List.foldl_cons]
    rw[ih (a+x),ih (0+x)]
    omega
theorem Gk (a b:List Nat):rkS (a++b)=rkS a+rkS b:=by
  simp only[rkS,List.map_append,List.foldl_append]
  exact R3 _ _
theorem Ej (k:Nat)(l:List Nat):rkS (k::l)=rk k+rkS l:=by
  rw[← List.singleton_append,Gk]
  simp[rkS]
theorem Nc {l:List Nat}(h:∀ k∈l,k<12):l.length≤rkS l:=by
  induction l with
  | nil=>simp[rkS]
  | cons k l ih =>
    rw[Ej]
    have:=(Ga k (h k (by simp))).1
    have:=ih fun x hx=>h x (by simp[hx])
    simp only[List.length_cons]
    omega
theorem Qc:∀ (f:Nat) (ks:List Nat) (R:List UInt8),(∀ k∈ks,k<12)→rkS ks≤4→6≤f+ks.length→R≠[] →
    Mc f ks R=((spl R).mapM nameNoL).bind fun k'=>if 4<rkS (ks++k') then none else some (ks++k')
  | 0,ks,R,h12,hr,hf,_=>by
    have:=Nc h12
    omega
  | f+1,ks,R,h12,hr,hf,hR=>by
    unfold Mc
    rw[if_neg hR]
    rcases spl_cases R with⟨h1,h2⟩ | ⟨p,r,h1,h2,h3⟩
    · rw[h2]
      simp only[List.mapM_cons,List.mapM_nil]
      by_cases hl:R.length=2
      · rw[if_neg (by omega),List.take_of_length_le (by omega),List.drop_eq_nil_of_le (by omega)]
        cases hk:nameNoL R with
        | none=>rfl
        | some k =>
          obtain⟨k12,_⟩:=Dh hk
          simp only[Option.bind_eq_bind,Option.bind_some,Option.pure_def]
          by_cases h4:4<rkS (ks++[k])
          · rw[if_pos h4,if_pos h4]
          · rw[if_neg h4,if_neg h4]
            have hks:∀ x∈ks++[k],x<12:=fun x hx=>by
              rcases List.mem_append.1 hx with hx | hx
              · exact h12 x hx
              · simp at hx
                omega
            have h5:=Nc hks
            simp only[List.length_append,List.length_singleton] at h5
            obtain⟨g,rfl⟩:∃ g,f=g+1:=⟨f - 1,by omega⟩
            unfold Mc
            rw[if_pos rfl,if_neg (by omega)]
      · rw[DN hl]
        simp only[Option.bind_eq_bind,Option.bind_none]
        by_cases hlt:R.length<2
        · rw[if_pos (.inl hlt)]
        · rw[if_pos (.inr ⟨by omega,.inl fun he=>h1 (List.mem_of_getElem? he)⟩)]
    · rw[h3]
      simp only[List.mapM_cons]
      subst h1
      by_cases hl:p.length=2
      · have e2:(p++43::r)[2]?=some 43:=by rw[List.getElem?_append_right (by omega),hl];rfl
        have e3:(p++43::r).take 2=p:=List.take_left' hl
        have e4:(p++43::r).drop 3=r:=by
          rw[show 3=p.length+1 by omega,← List.drop_drop,List.drop_left' rfl]
          rfl
        have e5:(p++43::r).length=r.length+3:=by simp;omega
        by_cases hr0:r = []
        · subst hr0
          rw[if_pos (.inr ⟨by rw[e5];simp,.inr (by rw[e5];rfl)⟩)]
          have:(spl []).mapM nameNoL=none:=by
            simp only[spl,List.mapM_cons]
            rw[DN (by simp)]
            rfl
          rw[this]
          cases nameNoL p <;> rfl
        · have hr1:r.length≠0:=fun e=>hr0 (List.eq_nil_of_length_eq_zero e)
          have hno : ¬ ((p++43::r).length<2∨(2<(p++43::r).length∧((p++43::r)[2]?≠some 43∨(p++43::r).length=3))):=by
            rw[e5,e2]
            rintro(h | ⟨_,h | h⟩)
            · omega
            · exact h rfl
            · omega
          rw[if_neg hno,e3,e4]
          cases hk:nameNoL p with
          | none=>rfl
          | some k =>
            obtain⟨k12,_⟩:=Dh hk
            simp only[Option.bind_eq_bind,Option.bind_some,Option.pure_def]
            have hks:∀ x∈ks++[k],x<12:=fun x hx=>by
              rcases List.mem_append.1 hx with hx | hx
              · exact h12 x hx
              · simp at hx
                omega
            by_cases h4:4<rkS (ks++[k])
            · rw[if_pos h4]
              cases (spl r).mapM nameNoL with
              | none=>rfl
              | some k' =>
                simp only[Option.bind_some]
                rw[if_pos]
                rw[Gk,Ej]
                rw[Gk] at h4
                simp only[Ej] at h4
                have:rkS []=0:=rfl
                omega
            · rw[if_neg h4,Qc f (ks++[k]) r hks (by omega) (by simp;omega) hr0]
              cases (spl r).mapM nameNoL with
              | none=>rfl
              | some k'=>simp[List.append_assoc]
      · rw[DN hl]
        simp only[Option.bind_eq_bind,Option.bind_none]
        by_cases hlt:p.length<2
        · by_cases hq:(p++43::r).length<2∨(2<(p++43::r).length∧((p++43::r)[2]?≠some 43∨(p++43::r).length=3))
          · rw[if_pos hq]
          · rw[if_neg hq,MS]
            · rfl
            · rw[List.take_append]
              refine List.mem_append.2 (.inr ?_)
              obtain⟨q,hq⟩:∃ q,2 - p.length=q+1:=⟨1 - p.length,by omega⟩
              rw[hq]
              simp
        · rw[if_pos]
          refine .inr ⟨by simp;omega,.inl fun he=>h2 ?_⟩
          rw[List.getElem?_append_left (by omega)] at he
          exact List.mem_of_getElem? he
theorem Z3 (s:ByteArray):cI s=cF s:=by
  unfold cI cF
  rw[ZM,Lc]
  by_cases h:s.data.toList = []
  · rw[h]
    have:(spl []).mapM nameNoL=none:=by
      simp only[spl,List.mapM_cons]
      rw[DN (by simp)]
      rfl
    rw[this]
    rfl
  · rw[Qc 6 [] _ (by simp) (by simp[rkS]) (by simp) h]
    simp
def cR (s:ByteArray):Int:=match cF s with | some ks=>(rkS ks:Nat) | none=>0
def cD (s:ByteArray):List Int:=match cF s with | some ks=>(C3 ks).2 | none=>[]
theorem Kn (ks:List Nat)(k:Nat):rkS (ks++[k])=rkS ks+rk k:=by
  rw[Gk]
  simp[rkS]
theorem Pw (ks:List Nat)(k:Nat):C3 (ks++[k])=Gs (C3 ks) k:=by
  simp only[C3,List.foldl_append,List.foldl_cons,List.foldl_nil]
theorem Sy (ks:List Nat):(C3 ks).1=(rkS ks:Nat):=by
  have key:∀ l:List Nat,∀ s:Int × List Int,(l.foldl Gs s).1=s.1+(rkS l:Nat):=by
    intro l
    induction l with
    | nil=>intro s;simp[rkS]
    | cons k l ih =>
      intro s
      rw[List.foldl_cons,ih,Ej]
      simp only[Gs]
      omega
  have:=key ks (0,[])
  simpa [C3] using this
theorem U0 (n1:Int)(d1:List Int)(n2:Int)(d2:List Int):(aV n1 d1 n2 d2).length=((n1+n2)*(n1+n2)).toNat:=by
  have key:∀ (l:List Nat) (f:List Int→Nat→List Int),(∀ o i,(f o i).length=o.length)→∀ o,(l.foldl f o).length=o.length:=by
    intro l f hf
    induction l with
    | nil=>intro o;rfl
    | cons x l ih=>intro o;rw[List.foldl_cons,ih,hf]
  unfold aV
  rw[key _ _ fun o i=>key _ _ (fun o j=>by simp) o,key _ _ fun o i=>key _ _ (fun o j=>by simp) o,List.length_replicate]
theorem SP (ks:List Nat):((C3 ks).2.length:Int)=(rkS ks:Nat)*(rkS ks:Nat):=by
  rcases List.eq_nil_or_concat ks with rfl | ⟨l,k,rfl⟩
  · rfl
  · rw[List.concat_eq_append,Pw]
    simp only[Gs,U0,Sy,Kn]
    have:0≤((rkS l:Int)+(rk k:Int))*((rkS l:Int)+(rk k:Int)):=Int.mul_nonneg (by omega) (by omega)
    rw[Int.toNat_of_nonneg this]
    simp
theorem P3 {s:ByteArray}(h:cF s=none):cR s=0∧cD s = []∧(cF s).isSome=false:=by simp[cR,cD,h]
theorem Rh {s:ByteArray}{ks:List Nat}(h:cF s=some ks):cR s=(rkS ks:Nat)∧cD s=(C3 ks).2∧(cF s).isSome=true:=by simp[cR,cD,h]
def jI (N a:Int)(k:Nat)(o:List Int)(i:Nat):List Int:=(List.range (rk k)).foldl (fun(o:List Int) (j:Nat)=>o.set ((a+(i:Int))*N+a+(j:Int)).toNat ((oneD k).getD ((i:Int)*(rk k:Int)+(j:Int)).toNat 0)) o
def jB (ks:List Nat)(N:Int)(o:List Int)(b:Nat):List Int:=(List.range (rk (ks.getD b 0))).foldl (jI N (rkS (ks.take b):Nat) (ks.getD b 0)) o
def Oe (ks:List Nat):List Int:=(List.range ks.length).foldl (jB ks (rkS ks:Nat)) (List.replicate ((rkS ks:Int)*(rkS ks:Int)).toNat 0)
def Sc:Nat→Nat→List (List Nat)
  | 0,_=>[[]]
  | f+1,r=>[]::(List.range 12).flatMap fun k=>if r<rk k then[] else(Sc f (r - rk k)).map (k :: ·)
theorem OI:∀ (f r:Nat) (ks:List Nat),(∀ k∈ks,k<12)→rkS ks≤r→ks.length≤f→ks∈Sc f r
  | 0,r,ks,_,_,hl=>by
    have:ks = []:=List.eq_nil_of_length_eq_zero (by omega)
    simp[this,Sc]
  | f+1,r,[],_,_,_=>by simp[Sc]
  | f+1,r,k::ks,h,hr,hl=>by
    rw[Ej] at hr
    simp only[Sc,List.mem_cons,List.mem_flatMap,List.mem_range]
    refine .inr ⟨k,h k (by simp),?_⟩
    rw[if_neg (by omega)]
    exact List.mem_map.2 ⟨ks,OI f _ ks (fun x hx=>h x (by simp[hx])) (by omega) (by simpa using hl),rfl⟩
set_option maxRecDepth 100000 in
theorem Sd:(Sc 4 4).all (fun ks=>Oe ks==(C3 ks).2)=true:=by decide +kernel
theorem Sv {ks:List Nat}(h:∀ k∈ks,k<12)(hr:rkS ks≤4):Oe ks=(C3 ks).2:=by
  have h1:=Nc h
  have:=List.all_eq_true.1 Sd ks (OI 4 4 ks h hr (by omega))
  simpa using this
theorem DW {ks:List Nat}{b:Nat}(h:b<ks.length):rkS (ks.take (b+1))=rkS (ks.take b)+rk (ks.getD b 0):=by
  have e:ks.take (b+1)=ks.take b++[ks.getD b 0]:=by
    rw[List.take_add_one,List.getElem?_eq_getElem h]
    simp[List.getD,h]
  rw[e,Kn]
theorem Hc (ks:List Nat)(b:Nat):rkS (ks.take b)≤rkS ks:=by
  have:=Gk (ks.take b) (ks.drop b)
  rw[List.take_append_drop] at this
  omega
theorem aY {l:List Nat}(h:∀ k∈l,k<12):rkS l≤4*l.length:=by
  induction l with
  | nil=>simp[rkS]
  | cons k l ih =>
    rw[Ej]
    have:=(Ga k (h k (by simp))).2
    have:=ih fun x hx=>h x (by simp[hx])
    simp only[List.length_cons]
    omega
def D9 (ks:List Nat)(vs:List Value):List (List Value):=List.zipWith (fun k v=>[Value.int .i64 (rk k:Nat),v]) ks vs
theorem Ol {ks:List Nat}{vs:List Value}(h:vs.length=ks.length):(D9 ks vs).length=ks.length:=by simp[D9,h]
theorem Rw (ks:List Nat)(vs:List Value):∀ r∈D9 ks vs,r.length=2:=by
  intro r hr
  simp only[D9,List.mem_iff_getElem?,List.getElem?_zipWith] at hr
  obtain⟨i,hi⟩:=hr
  cases h1:ks[i]? <;> cases h2:vs[i]? <;> simp_all
  subst hi
  rfl
theorem Oc {ks:List Nat}{vs:List Value}(h:vs.length=ks.length){b:Nat}(hb:b<ks.length):(D9 ks vs).getD b [] = [Value.int .i64 (rk (ks.getD b 0):Nat),vs.getD b undef]:=by
  simp[D9,List.getD,hb,h]
theorem SR {ks:List Nat}{vs:List Value}(h:vs.length=ks.length){k:Nat}{v:Value}{q:Int}(hq:q=(rk k:Nat)):D9 ks vs++[[Value.int .i64 q,v]]=D9 (ks++[k]) (vs++[v]):=by
  rw[hq,D9,D9,List.zipWith_append h.symm]
  rfl
theorem L9 (xs:List ByteArray)(x:ByteArray):(xs++[x]).mapM nameNo=(xs.mapM nameNo).bind fun ks=>(nameNo x).map fun k=>ks++[k]:=by
  induction xs with
  | nil =>
    simp only[List.nil_append,List.mapM_cons,List.mapM_nil]
    cases nameNo x <;> rfl
  | cons y xs ih =>
    simp only[List.cons_append,List.mapM_cons,ih]
    cases nameNo y with
    | none=>rfl
    | some k =>
      cases xs.mapM nameNo with
      | none=>rfl
      | some l=>cases nameNo x <;> rfl
theorem Le {xs ys:List ByteArray}(h:xs.mapM nameNo=none):(xs++ys).mapM nameNo=none:=by
  induction xs with
  | nil=>simp at h
  | cons y xs ih =>
    simp only[List.cons_append,List.mapM_cons] at h ⊢
    cases hy:nameNo y with
    | none=>rfl
    | some k =>
      rw[hy] at h
      cases hx:xs.mapM nameNo with
      | none=>rw[ih hx];rfl
      | some l=>rw[hx] at h;simp at h
def S4 (s:ByteArray)(i:Nat)(ks:List Nat):Prop:=((Ae s).take i).mapM nameNo=some ks
theorem LW {s:ByteArray}{i:Nat}(h:i<(Ae s).length):(Ae s).take (i+1)=(Ae s).take i++[(Ae s).getD i ⟨#[]⟩]:=by
  rw[List.take_add_one,List.getElem?_eq_getElem h]
  simp[List.getD,h]
theorem S4.next {s:ByteArray}{i:Nat}{ks:List Nat}(h:S4 s i ks)(hi:i<(Ae s).length){k:Nat}(hk:nameNo ((Ae s).getD i ⟨#[]⟩)=some k):S4 s (i+1) (ks++[k]):=by
  unfold S4 at h ⊢
  rw[LW hi,L9,h,hk]
  rfl
theorem S4.bad {s:ByteArray}{i:Nat}{ks:List Nat}(h:S4 s i ks)(hi:i<(Ae s).length)(hk:nameNo ((Ae s).getD i ⟨#[]⟩)=none):cF s=none:=by
  have h1:((Ae s).take (i+1)).mapM nameNo=none:=by
    unfold S4 at h
    rw[LW hi,L9,h,hk]
    rfl
  have:=Le (ys:=(Ae s).drop (i+1)) h1
  rw[List.take_append_drop] at this
  rw[← Z3,cI,OQ,this]
  rfl
theorem S4.stop {s:ByteArray}{i:Nat}{ks:List Nat}(h:S4 s i ks)(hi:(Ae s).length≤i):cF s=if 4<rkS ks then none else some ks:=by
  unfold S4 at h
  rw[List.take_of_length_le hi] at h
  rw[← Z3,cI,OQ,h]
  rfl
theorem S4.lt {s:ByteArray}{i:Nat}{ks:List Nat}(h:S4 s i ks):∀ k∈ks,k<12:=by
  have key:∀ (xs:List ByteArray) (l:List Nat),xs.mapM nameNo=some l→∀ k∈l,k<12:=by
    intro xs
    induction xs with
    | nil =>
      intro l h k hk
      simp at h
      subst h
      simp at hk
    | cons x xs ih =>
      intro l h k hk
      simp only[List.mapM_cons,Option.bind_eq_bind,Option.bind_eq_some_iff,Option.pure_def,Option.some.injEq] at h
      obtain⟨a,ha,b,hb,rfl⟩:=h
      rcases List.mem_cons.1 hk with e | hk
      · exact e ▸ (EW ha).1
      · exact ih b hb k hk
  exact key _ _ h
theorem MJ (s:ByteArray):(Ae s).length≤s.size+1:=by
  rw[FD]
  have:=Lib.countB_le ⟨#[43]⟩ (by decide) s.size s (Nat.le_refl _)
  omega
theorem XX {o:Option Nat}(h:o.isSome=true):∃ k,o=some k:=Option.isSome_iff_exists.1 h
theorem Xy {o:Option Nat}(h:o.isSome=false):o=none:=by simpa using h
theorem Bi {xs:List Int}{n:Int}(h:∀ y∈xs,0≤y∧y<n){k:Nat}(hk:k<xs.length):0≤xs.getD k 0∧xs.getD k 0<n:=by
  have e:xs.getD k 0=xs[k]:=by simp[List.getD,hk]
  rw[e]
  exact h _ (List.getElem_mem hk)
theorem EY {xs:List Int}{n x:Int}(h:∀ y∈xs,0≤y∧y<n)(hx:0≤x∧x<n):∀ y∈xs++[x],0≤y∧y<n:=fun y hy=>by
  rcases List.mem_append.1 hy with hy | hy
  · exact h y hy
  · simp at hy
    exact hy ▸ hx
theorem NY:∀ {p R:List Int},p.Nodup→(∀ x∈p,x∈R)→p.length≤R.length
  | [],_,_,_=>Nat.zero_le _
  | y::p,R,hn,hs=>by
    have hy:=hs y (by simp)
    have:=NY (p:=p) (R:=R.erase y) (List.nodup_cons.1 hn).2 fun z hz=>by
      have hzy:z≠y:=fun e=>(List.nodup_cons.1 hn).1 (e ▸ hz)
      exact(List.mem_erase_of_ne hzy).2 (hs z (by simp[hz]))
    rw[List.length_erase_of_mem hy] at this
    have:=List.length_pos_of_mem hy
    simp only[List.length_cons]
    omega
theorem HS {xs:List Int}{n:Int}(hn:xs.Nodup)(h:∀ y∈xs,0≤y∧y<n):xs.length≤n.toNat:=by
  have:=NY (R:=NF n.toNat) hn fun x hx=>by
    have h1:=h x hx
    simp only[NF,List.mem_map,List.mem_range]
    exact⟨x.toNat,by omega,by show ((x.toNat:Nat):Int)=x;omega⟩
  simpa [NF] using this
theorem KU {p:List Int}{z:Int}(h:p.Nodup)(hz:z ∉ p):(p++[z]).Nodup:=by
  rw[List.nodup_append]
  refine⟨h,by simp,fun a ha b hb=>?_⟩
  simp at hb
  subst hb
  exact fun e=>hz (e ▸ ha)
section
variable {P:Program}{n:Nat}{env:List (Nat × Value)}{W:World}{own:List Asn}
theorem GE.ownEq {e:Exit}{Q:Exit→Act→World→Prop}{own':List Asn}(h:own=own')(k:GE e Q n env W own'):GE e Q n env W own:=h ▸ k
theorem GC.ownEq {c:Code}{Q:Exit→Act→World→Prop}{own':List Asn}(h:own=own')(k:GC P c Q n env W own'):GC P c Q n env W own:=h ▸ k
theorem G.ownEq {ops:Array Oper}{Q:Exit→Act→World→Prop}{rest:List Oper}{own':List Asn}(h:own=own')(k:G P ops Q rest n env W own'):G P ops Q rest n env W own:=h ▸ k
end
end Go.Proofs.YtbmnnbglipkidaaGreatDoor
