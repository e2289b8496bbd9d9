/-
  The positive roots of a Cartan matrix: found one from another, put in order: what both texts do, in plain words; that it ends and stays small is checked by the kernel for all Cartan matrices. No program is spoken of.
-/
import Derived.Test.YtbmnnbglipkidaaGreatDoorCarW
namespace Go.Proofs.YtbmnnbglipkidaaGreatDoor
set_option maxRecDepth 100000
set_option linter.unusedVariables false
set_option linter.unusedSimpArgs false
theorem set_same {o:List Int}{i:Nat}(h:i<o.length):o.set i (o.getD i 0)=o:=by simp[List.getD,h]
def rStep (n:Int)(d x:List Int)(i:Nat):List Int:=x.set i (x.getD i 0 - dotN (fun k=>atI n d i k) (x.getD · 0) n.toNat)
theorem rStep_len (n:Int)(d x:List Int)(i:Nat):(rStep n d x i).length=x.length:=by simp[rStep]
theorem dotN_small {a x:Nat→Int}:∀ {m:Nat},(∀ k,k<m→(-3≤a k∧a k≤3) ∧ -1000≤x k∧x k≤1000) → -(3000*(m:Int))≤dotN a x m∧dotN a x m≤3000*(m:Int)
  | 0,_=>by simp[dotN]
  | m+1,h=>by
    have h1:=dotN_small (m:=m) fun k hk=>h k (by omega)
    obtain⟨h2,h3⟩:=h m (by omega)
    have h4:=mul_bd (B:=1000) (x:=x m) (a:=a m) h3 h2
    rw[Int.mul_comm (x m)] at h4
    rw[dotN]
    omega
theorem wtI_in {n:Int}{d x o:List Int}{i:Nat}(hd:∀ y∈d, -3≤y∧y≤3)(hx:∀ k,k<x.length → -1000≤x.getD k 0∧x.getD k 0≤1000)(hl:x.length≤4)(hi:i<o.length)(h0:o.getD i 0=0) :
    ∀ m:Nat,m≤x.length→(List.range m).foldl (fun(o:List Int) (j:Nat)=>o.set i (IntKind.i64.wrap (o.getD i 0+IntKind.i64.wrap (atI n d i j*x.getD j 0)))) o=o.set i (dotN (fun k=>atI n d i k) (x.getD · 0) m)
  | 0,_=>by
    have:=set_same hi
    rw[h0] at this
    exact this.symm
  | m+1,hm=>by
    have hb:=dotN_small (a:=fun k=>atI n d i k) (x:=(x.getD · 0)) (m:=m) fun k hk=>⟨atI_bd hd i k,hx k (by omega)⟩
    have h4:=mul_bd (B:=1000) (hx m (by omega)) (atI_bd (n:=n) hd i m)
    rw[Int.mul_comm (x.getD m 0)] at h4
    rw[foldl_succ,wtI_in hd hx hl hi h0 m (by omega),set_getD_eq hi,List.set_set,dotN,wrap_in (x:=atI n d i m*x.getD m 0) (by omega) (by omega),wrap_in (by omega) (by omega)]
theorem wtF_get {n:Int}{d x:List Int}(hd:∀ y∈d, -3≤y∧y≤3)(hx:∀ k,k<x.length → -1000≤x.getD k 0∧x.getD k 0≤1000)(hn:x.length=n.toNat)(h4:n.toNat≤4) :
    ∀ m:Nat,m≤n.toNat→((List.range m).foldl (wtI n d x) (List.replicate n.toNat 0)).length=n.toNat∧∀ k,k<n.toNat→((List.range m).foldl (wtI n d x) (List.replicate n.toNat 0)).getD k 0=if k<m then dotN (fun j=>atI n d k j) (x.getD · 0) n.toNat else 0
  | 0,_=>by
    refine⟨by simp,fun k hk=>?_⟩
    rw[if_neg (by omega)]
    simp[List.getD,hk]
  | m+1,hm=>by
    obtain⟨h1,h2⟩:=wtF_get hd hx hn h4 m (by omega)
    have h0:=h2 m (by omega)
    rw[if_neg (by omega)] at h0
    have e:=wtI_in (n:=n) hd hx (by omega) (o:=(List.range m).foldl (wtI n d x) (List.replicate n.toNat 0)) (i:=m) (by omega) h0 x.length (Nat.le_refl _)
    have e2:(List.range (m+1)).foldl (wtI n d x) (List.replicate n.toNat 0)=((List.range m).foldl (wtI n d x) (List.replicate n.toNat 0)).set m (dotN (fun k=>atI n d m k) (x.getD · 0) x.length):=by
      rw[foldl_succ]
      exact e
    rw[e2]
    refine⟨by rw[List.length_set];exact h1,fun k hk=>?_⟩
    by_cases hkm:k=m
    · subst hkm
      rw[set_getD_eq (by omega),if_pos (by omega),hn]
    · rw[set_getD_ne (by omega),h2 k hk]
      by_cases h:k<m
      · rw[if_pos h,if_pos (by omega)]
      · rw[if_neg h,if_neg (by omega)]
theorem wtF_at {n:Int}{d x:List Int}(hd:∀ y∈d, -3≤y∧y≤3)(hx:∀ k,k<x.length → -1000≤x.getD k 0∧x.getD k 0≤1000)(hn:x.length=n.toNat)(h4:n.toNat≤4){i:Nat}(hi:i<n.toNat) :
    (wtF n d x).getD i 0=dotN (fun j=>atI n d i j) (x.getD · 0) n.toNat ∧ -12000≤(wtF n d x).getD i 0∧(wtF n d x).getD i 0≤12000:=by
  have h:=(wtF_get hd hx hn h4 n.toNat (Nat.le_refl _)).2 i hi
  rw[if_pos hi] at h
  have hb:=dotN_small (a:=fun k=>atI n d i k) (x:=(x.getD · 0)) (m:=n.toNat) fun k hk=>⟨atI_bd hd i k,hx k (by omega)⟩
  have e:(wtF n d x).getD i 0=_:=h
  refine⟨e,?_⟩
  rw[e]
  omega
theorem arI_step {n:Int}{d x:List Int}{i:Int}(hd:∀ y∈d, -3≤y∧y≤3)(hx:∀ k,k<x.length → -1000≤x.getD k 0∧x.getD k 0≤1000)(hn:x.length=n.toNat)(h4:n.toNat≤4)(hi:i.toNat<n.toNat):arI n d i x=rStep n d x i.toNat:=by
  obtain⟨h1,h2⟩:=wtF_at hd hx hn h4 hi
  have h3:=hx i.toNat (by omega)
  rw[arI,rStep,wrap_in (by omega) (by omega),h1]
theorem lpF_step {n:Int}{d x:List Int}{i:Nat}(hd:∀ y∈d, -3≤y∧y≤3)(hx:∀ k,k<x.length → -1000≤x.getD k 0∧x.getD k 0≤1000)(hn:x.length=n.toNat)(h4:n.toNat≤4)(hi:i<n.toNat):lpF x (0 - (wtF n d x).getD i 0) (unitL n.toNat i)=rStep n d x i:=by
  obtain⟨h1,h2⟩:=wtF_at hd hx hn h4 hi
  have hul:(unitL n.toNat i).length=n.toNat:=by simp[unitL]
  refine ext_getD (by rw[lpF_len,rStep_len]) fun k hk=>?_
  rw[lpF_len] at hk
  have hg:=fset_get (g:=fun t (v:Int)=>IntKind.i64.wrap (v+IntKind.i64.wrap ((0 - (wtF n d x).getD i 0)*(unitL n.toNat i).getD t 0))) (o:=x) (m:=(unitL n.toNat i).length) (k:=k) (by omega) hk
  rw[if_pos (by omega)] at hg
  refine Eq.trans hg ?_
  have hu:(unitL n.toNat i).getD k 0=if k=i then 1 else 0:=by
    have:k<n.toNat:=by omega
    simp[unitL,List.getD,this]
  have h3:=hx k hk
  rw[hu,rStep]
  by_cases e:k=i
  · subst e
    rw[if_pos rfl,set_getD_eq hk,Int.mul_one,wrap_in (x:=0 - (wtF n d x).getD k 0) (by omega) (by omega),wrap_in (by omega) (by omega),h1]
    omega
  · rw[if_neg e,set_getD_ne (by omega),Int.mul_zero,wrap_in (x:=0) (by omega) (by omega),Int.add_zero,wrap_in (by omega) (by omega)]
def posL (x:List Int):Bool := !(x.any fun y=>decide (y<0))
def plF (L:List (List Int))(x:List Int):Int:=posF (fun y=>samB y x) L
theorem plF_no {L:List (List Int)}{x:List Int}:decide (plF L x<0) = !(L.contains x):=by
  rw[plF,posF_lt]
  congr 1
  rw[Bool.eq_iff_iff]
  simp[samB,List.any_eq_true]
def rOne (n:Int)(d x:List Int)(L:List (List Int))(i:Nat):List (List Int):=if posL (rStep n d x i) && !(L.contains (rStep n d x i)) then L++[rStep n d x i] else L
def rAdd (n:Int)(d x:List Int)(L:List (List Int)):List (List Int):=(List.range n.toNat).foldl (rOne n d x) L
def rC (n:Int)(d:List Int):Nat→List (List Int)→Nat→Option (List (List Int))
  | 0,_,_=>none
  | f+1,L,k=>if k<L.length then rC n d f (rAdd n d (L.getD k []) L) (k+1) else some L
def rFd (n:Int)(d:List Int):List (List Int):=(rC n d 40 (units n) 0).getD []
def Pre (L R:List (List Int)):Prop:=∃ T,R=L++T
theorem Pre.refl (L:List (List Int)):Pre L L:=⟨[],by simp⟩
theorem Pre.trans {L M R:List (List Int)}(h:Pre L M)(k:Pre M R):Pre L R:=by
  obtain⟨T,rfl⟩:=h
  obtain⟨U,rfl⟩:=k
  exact⟨T++U,by simp⟩
theorem Pre.len {L R:List (List Int)}(h:Pre L R):L.length≤R.length:=by
  obtain⟨T,rfl⟩:=h
  simp
theorem Pre.mem {L R:List (List Int)}(h:Pre L R){x:List Int}(hx:x∈L):x∈R:=by
  obtain⟨T,rfl⟩:=h
  simp[hx]
theorem Pre.get {L R:List (List Int)}(h:Pre L R){k:Nat}(hk:k<L.length):R.getD k []=L.getD k []:=by
  obtain⟨T,rfl⟩:=h
  simp[List.getD,List.getElem?_append_left hk]
theorem rOne_pre {n:Int}{d x:List Int}{L:List (List Int)}{i:Nat}:Pre L (rOne n d x L i):=by
  unfold rOne
  split
  · exact⟨_,rfl⟩
  · exact Pre.refl _
theorem rIn_pre {n:Int}{d x:List Int}{L:List (List Int)}{i:Nat}:∀ {m:Nat},i≤m→Pre ((List.range i).foldl (rOne n d x) L) ((List.range m).foldl (rOne n d x) L)
  | 0,h=>by
    have:i=0:=by omega
    subst this
    exact Pre.refl _
  | m+1,h=>by
    by_cases e:i=m+1
    · subst e
      exact Pre.refl _
    · rw[foldl_succ]
      exact(rIn_pre (by omega)).trans rOne_pre
theorem rC_pre {n:Int}{d:List Int}:∀ {f:Nat} {L R:List (List Int)} {k:Nat},rC n d f L k=some R→Pre L R
  | 0,_,_,_,h=>by cases h
  | f+1,L,R,k,h=>by
    rw[rC] at h
    split at h
    · exact(rIn_pre (i:=0) (Nat.zero_le _)).trans (rC_pre h)
    · cases h
      exact Pre.refl _
theorem rC_step {n:Int}{d:List Int}{f:Nat}{L R:List (List Int)}{k:Nat}(h:rC n d f L k=some R)(hk:k<L.length):∃ g,f=g+1∧rC n d g (rAdd n d (L.getD k []) L) (k+1)=some R∧∀ i,i≤n.toNat→Pre ((List.range i).foldl (rOne n d (L.getD k [])) L) R:=by
  cases f with
  | zero=>cases h
  | succ f =>
    rw[rC,if_pos hk] at h
    exact⟨f,rfl,h,fun i hi=>(rIn_pre hi).trans (rC_pre h)⟩
theorem rC_end {n:Int}{d:List Int}{f:Nat}{L R:List (List Int)}{k:Nat}(h:rC n d f L k=some R)(hk:L.length≤k):L=R:=by
  cases f with
  | zero=>cases h
  | succ f =>
    rw[rC,if_neg (by omega)] at h
    simpa using h
def sumW (x:List Int):Int:=(List.range x.length).foldl (fun(s:Int) (i:Nat)=>IntKind.i64.wrap (s+x.getD i 0)) 0
def rcmp (x y:List Int):Int:=if cmpI (sumW x) (sumW y)≠0 then cmpI (sumW x) (sumW y) else cmpL y x
def lsB (x y:List Int):Bool:=if sumW x≠sumW y then decide (sumW x<sumW y) else abvL x y
def ltR (x y:List Int):Bool:=decide (rcmp x y<0)
def orL (x:List Int):Int:=if x.getD 0 0≠0 then x.getD 0 0 else x.getD 1 0
theorem or2 {x:List Int}(_:x.length=2):orL x=if x.getD 0 0≠0 then x.getD 0 0 else x.getD 1 0:=rfl
theorem or_at {x:List Int}{k:Nat}(hx:x.length=2)(hk:k<x.length)(ht:∀ j,j<k→x.getD j 0=0)(h:x.getD k 0≠0):(if x.getD 0 0≠0 then x.getD 0 0 else x.getD 1 0)=x.getD k 0:=by
  rcases(by omega:k=0∨k=1) with rfl | rfl
  · rw[if_pos h]
  · rw[if_neg (fun e=>e (ht 0 (by omega)))]
theorem or_no {x:List Int}{k:Nat}(hx:x.length=2)(hk:x.length≤k)(ht:∀ j,j<k→x.getD j 0=0):(if x.getD 0 0≠0 then x.getD 0 0 else x.getD 1 0)=0:=by
  rw[if_neg (fun e=>e (ht 0 (by omega))),ht 1 (by omega)]
theorem cmpI_cases (a b:Int):(a<b∧cmpI a b = -1)∨(a=b∧cmpI a b=0)∨(b<a∧cmpI a b=1):=by
  unfold cmpI
  by_cases h1:a<b
  · exact .inl ⟨h1,if_pos h1⟩
  · by_cases h2:b<a
    · exact .inr (.inr ⟨h2,by rw[if_neg h1,if_pos h2]⟩)
    · exact .inr (.inl ⟨by omega,by rw[if_neg h1,if_neg h2]⟩)
theorem cmpL_cons (a b:Int)(s t:List Int):(a<b∧cmpL (a::s) (b::t) = -1)∨(a=b∧cmpL (a::s) (b::t)=cmpL s t)∨(b<a∧cmpL (a::s) (b::t)=1):=by
  rcases cmpI_cases a b with⟨h1,h2⟩ | ⟨h1,h2⟩ | ⟨h1,h2⟩
  · exact .inl ⟨h1,by rw[cmpL,h2,if_pos (by omega)]⟩
  · exact .inr (.inl ⟨h1,by rw[cmpL,h2,if_neg (by omega)]⟩)
  · exact .inr (.inr ⟨h1,by rw[cmpL,h2,if_pos (by omega)]⟩)
theorem cmpL_nil (b:Int)(t:List Int):cmpL [] (b::t) = -1:=by simp[cmpL]
theorem cmpL_nil2 (b:Int)(t:List Int):cmpL (b::t) []=1:=rfl
theorem cmpL_neg:∀ x y:List Int,cmpL y x = -(cmpL x y)
  | [],[]=>by simp[cmpL]
  | [],b::t=>by rw[cmpL_nil,cmpL_nil2];rfl
  | a::s,[]=>by rw[cmpL_nil,cmpL_nil2]
  | a::s,b::t=>by
    rcases cmpL_cons a b s t with⟨h1,h2⟩ | ⟨h1,h2⟩ | ⟨h1,h2⟩ <;> rcases cmpL_cons b a t s with⟨g1,g2⟩ | ⟨g1,g2⟩ | ⟨g1,g2⟩ <;> first
      | omega
      | (rw[h2,g2];exact cmpL_neg s t)
theorem cmpL_zero:∀ {x y:List Int},cmpL x y=0→x=y
  | [],[],_=>rfl
  | [],b::t,h=>by rw[cmpL_nil] at h;omega
  | a::s,[],h=>by rw[cmpL_nil2] at h;omega
  | a::s,b::t,h=>by
    rcases cmpL_cons a b s t with⟨h1,h2⟩ | ⟨h1,h2⟩ | ⟨h1,h2⟩
    · omega
    · rw[h1,cmpL_zero (h2.symm.trans h)]
    · omega
theorem cmpL_self (x:List Int):cmpL x x=0:=by
  have:=cmpL_neg x x
  omega
theorem cmpL_trans:∀ {x y z:List Int},cmpL x y<0→cmpL y z<0→cmpL x z<0
  | [],[],[],h,_=>by rw[cmpL_self] at h;omega
  | [],b::t,[],_,h=>by rw[cmpL_nil2] at h;omega
  | [],_,c::u,_,_=>by rw[cmpL_nil];omega
  | a::s,[],_,h,_=>by rw[cmpL_nil2] at h;omega
  | a::s,b::t,[],_,h=>by rw[cmpL_nil2] at h;omega
  | a::s,b::t,c::u,h,k=>by
    rcases cmpL_cons a b s t with⟨h1,h2⟩ | ⟨h1,h2⟩ | ⟨h1,h2⟩ <;> rcases cmpL_cons b c t u with⟨g1,g2⟩ | ⟨g1,g2⟩ | ⟨g1,g2⟩ <;> rcases cmpL_cons a c s u with⟨k1,k2⟩ | ⟨k1,k2⟩ | ⟨k1,k2⟩ <;> first
      | omega
      | (rw[k2];exact cmpL_trans (by rw[← h2];exact h) (by rw[← g2];exact k))
theorem rcmp_cases (x y:List Int):(sumW x<sumW y∧rcmp x y = -1)∨(sumW x=sumW y∧rcmp x y=cmpL y x)∨(sumW y<sumW x∧rcmp x y=1):=by
  rcases cmpI_cases (sumW x) (sumW y) with⟨h1,h2⟩ | ⟨h1,h2⟩ | ⟨h1,h2⟩
  · exact .inl ⟨h1,by rw[rcmp,h2,if_pos (by omega)]⟩
  · exact .inr (.inl ⟨h1,by rw[rcmp,h2,if_neg (by omega)]⟩)
  · exact .inr (.inr ⟨h1,by rw[rcmp,h2,if_pos (by omega)]⟩)
theorem rcmp_neg (x y:List Int):rcmp y x = -(rcmp x y):=by
  have:=cmpL_neg x y
  rcases rcmp_cases x y with⟨h1,h2⟩ | ⟨h1,h2⟩ | ⟨h1,h2⟩ <;> rcases rcmp_cases y x with⟨g1,g2⟩ | ⟨g1,g2⟩ | ⟨g1,g2⟩ <;> omega
theorem rcmp_zero {x y:List Int}(h:rcmp x y=0):x=y:=by
  rcases rcmp_cases x y with⟨h1,h2⟩ | ⟨h1,h2⟩ | ⟨h1,h2⟩
  · omega
  · exact(cmpL_zero (h2.symm.trans h)).symm
  · omega
theorem rcmp_trans {x y z:List Int}(h:rcmp x y<0)(k:rcmp y z<0):rcmp x z<0:=by
  rcases rcmp_cases x y with⟨h1,h2⟩ | ⟨h1,h2⟩ | ⟨h1,h2⟩ <;> rcases rcmp_cases y z with⟨g1,g2⟩ | ⟨g1,g2⟩ | ⟨g1,g2⟩ <;> rcases rcmp_cases x z with⟨k1,k2⟩ | ⟨k1,k2⟩ | ⟨k1,k2⟩ <;> first
    | omega
    | (rw[k2];exact cmpL_trans (by rw[← g2];exact k) (by rw[← h2];exact h))
theorem ltR_total {x y:List Int}(h:ltR x y=false)(k:ltR y x=false):x=y:=by
  have h1:=of_decide_eq_false h
  have h2:=of_decide_eq_false k
  have:=rcmp_neg x y
  exact rcmp_zero (by omega)
theorem ltR_irr (x:List Int):ltR x x=false:=decide_eq_false (by have:=rcmp_neg x x;omega)
theorem ltR_ntrans {x y z:List Int}(h:ltR x y=false)(k:ltR y z=false):ltR x z=false:=by
  cases e:ltR x z with
  | false=>rfl
  | true =>
    exfalso
    have h1:=of_decide_eq_false h
    have h2:=of_decide_eq_false k
    have h3:rcmp x z<0:=of_decide_eq_true e
    have n1:=rcmp_neg x y
    have n2:=rcmp_neg y z
    have n3:=rcmp_neg x z
    by_cases e1:rcmp x y=0
    · rw[← rcmp_zero e1] at h2
      omega
    · by_cases e2:rcmp y z=0
      · rw[rcmp_zero e2] at h1
        omega
      · have:=rcmp_trans (x:=z) (y:=y) (z:=x) (by omega) (by omega)
        omega
def rInsAt (x:List Int)(L:List (List Int)):Nat→Nat
  | 0=>0
  | a+1=>if lsB x (L.getD a []) then rInsAt x L a else a+1
def rIns (L:List (List Int))(x:List Int):List (List Int):=L.take (rInsAt x L L.length)++[x]++L.drop (rInsAt x L L.length)
def rSt (n:Int)(d:List Int):List (List Int):=(rFd n d).foldl rIns []
theorem rInsAt_le (x:List Int)(L:List (List Int)):∀ a:Nat,rInsAt x L a≤a
  | 0=>Nat.le_refl _
  | a+1=>by
    have:=rInsAt_le x L a
    rw[rInsAt]
    split
    · omega
    · exact Nat.le_refl _
theorem rIns_len (L:List (List Int))(x:List Int):(rIns L x).length=L.length+1:=by
  have:=rInsAt_le x L L.length
  simp[rIns]
  omega
def pairB:List (List Int)→Bool
  | []=>true
  | x::t=>(t.all fun y => !(ltR y x))&&pairB t
theorem pairB_ok:∀ {L:List (List Int)},pairB L=true→L.Pairwise fun a b=>ltR b a=false
  | [],_ => .nil
  | x::t,h=>by
    simp only[pairB,Bool.and_eq_true,List.all_eq_true,Bool.not_eq_true'] at h
    exact .cons h.1 (pairB_ok h.2)
def nodB:List (List Int)→Bool
  | []=>true
  | x::t => !(t.contains x)&&nodB t
theorem nodB_ok:∀ {L:List (List Int)},nodB L=true→L.Nodup
  | [],_ => .nil
  | x::t,h=>by
    simp only[nodB,Bool.and_eq_true,Bool.not_eq_true',List.contains_iff_mem] at h
    exact List.nodup_cons.2 ⟨by simpa using h.1,nodB_ok h.2⟩
def chkR (n:Int)(d:List Int):Bool :=
  (rC n d 40 (units n) 0).isSome&&((rFd n d).all fun x=>(x.length==n.toNat)&&x.all fun y=>decide (0≤y)&&decide (y≤10))&&decide ((rFd n d).length≤30)&&nodB (rFd n d)&&pairB (rSt n d)&&(rSt n d).isPerm (rFd n d)
def chkRs (n a b:Nat):Bool:=(((candL n).drop a).take b).all fun d=>chkR n d
theorem chkRs_1:chkRs 1 0 1000=true:=by decide +kernel
theorem chkRs_2:chkRs 2 0 1000=true:=by decide +kernel
theorem chkRs_3:chkRs 3 0 1000=true:=by decide +kernel
theorem chkRs_4a:chkRs 4 0 80=true:=by decide +kernel
theorem chkRs_4b:chkRs 4 80 80=true:=by decide +kernel
theorem chkRs_4c:chkRs 4 160 1000=true:=by decide +kernel
theorem chkRs_all {m:Nat}{d:List Int}(h1:1≤m)(h4:m≤4)(hd:d∈candL m):chkR m d=true:=by
  have one:∀ n,chkRs n 0 1000=true→(candL n).length≤1000→d∈candL n→chkR n d=true:=fun n h hl hd=>by
    simp only[chkRs,List.all_eq_true] at h
    exact h d (by rw[List.drop_zero,List.take_of_length_le hl];exact hd)
  have len:∀ n,1≤n→n≤4→(candL n).length≤1000:=fun n a b=>four (P:=fun n=>(candL n).length≤1000) (by decide +kernel) (by decide +kernel) (by decide +kernel) (by decide +kernel) a b
  rcases(by omega:m=1∨m=2∨m=3∨m=4) with rfl | rfl | rfl | rfl
  · exact one 1 chkRs_1 (len 1 (by omega) (by omega)) hd
  · exact one 2 chkRs_2 (len 2 (by omega) (by omega)) hd
  · exact one 3 chkRs_3 (len 3 (by omega) (by omega)) hd
  · have ha:=chkRs_4a
    have hb:=chkRs_4b
    have hc:=chkRs_4c
    simp only[chkRs,List.all_eq_true] at ha hb hc
    rcases mem_parts 80 hd with h | h
    · exact ha d h
    · rcases mem_parts 80 h with h2 | h2
      · exact hb d (by simpa using h2)
      · rw[List.drop_drop] at h2
        exact hc d (by
          have hl:=len 4 (by omega) (by omega)
          rw[List.take_of_length_le (by rw[List.length_drop];omega)]
          simpa using h2)
structure RtOk (n:Int)(d:List Int):Prop where
  run:rC n d 40 (units n) 0=some (rFd n d)
  len:∀ x∈rFd n d,x.length=n.toNat
  ent:∀ x∈rFd n d,∀ k,0≤x.getD k 0∧x.getD k 0≤10
  few:(rFd n d).length≤30
  nod:(rFd n d).Nodup
  pair:(rSt n d).Pairwise fun a b=>ltR b a=false
  perm:(rSt n d).Perm (rFd n d)
  mat:∀ x∈d, -3≤x∧x≤3
  lo:1≤n.toNat
  rk:n.toNat≤4
theorem rtOk {n:Int}{d:List Int}(h:(tyS n d).isSome=true):RtOk n d:=by
  obtain⟨ks,hk⟩:=Option.isSome_iff_exists.1 h
  obtain⟨m,rfl,h1,h4,hd⟩:=tyS_cand hk
  have hp:=phOk h
  have h0:=chkRs_all h1 h4 hd
  simp only[chkR,Bool.and_eq_true,List.all_eq_true,decide_eq_true_eq,beq_iff_eq] at h0
  obtain⟨⟨⟨⟨⟨a1,a2⟩,a3⟩,a4⟩,a5⟩,a6⟩:=h0
  obtain⟨R,hR⟩:=Option.isSome_iff_exists.1 a1
  have e:rFd m d=R:=by rw[rFd,hR];rfl
  refine⟨by rw[e];exact hR,fun x hx=>(a2 x hx).1,fun x hx k=>?_,a3,nodB_ok a4,pairB_ok a5,List.isPerm_iff.1 a6,hp.ent,by omega,hp.rk⟩
  by_cases hkl:k<x.length
  · have e2:x.getD k 0=x[k]:=by simp[List.getD,hkl]
    rw[e2]
    exact(a2 x hx).2 _ (List.getElem_mem hkl)
  · simp[List.getD,List.getElem?_eq_none (Nat.le_of_not_lt hkl)]
theorem RtOk.sorted {n:Int}{d:List Int}(h:RtOk n d){L:List (List Int)}(hp:L.Perm (rFd n d))(hs:L.Pairwise fun a b=>ltR b a=false):L=rSt n d :=
  List.Perm.eq_of_pairwise (le:=fun a b=>ltR b a=false) (fun _ _ _ _ h1 h2=>ltR_total h2 h1) hs h.pair (hp.trans h.perm.symm)
theorem RtOk.slen {n:Int}{d:List Int}(h:RtOk n d):(rSt n d).length=(rFd n d).length:=h.perm.length_eq
theorem RtOk.smem {n:Int}{d:List Int}(h:RtOk n d){x:List Int}(hx:x∈rSt n d):x.length=n.toNat∧∀ k,0≤x.getD k 0∧x.getD k 0≤10:=⟨h.len x (h.perm.mem_iff.1 hx),h.ent x (h.perm.mem_iff.1 hx)⟩
theorem RtOk.sget {n:Int}{d:List Int}(h:RtOk n d){k:Nat}(hk:k<(rSt n d).length):((rSt n d).getD k []).length=n.toNat∧∀ j,0≤((rSt n d).getD k []).getD j 0∧((rSt n d).getD k []).getD j 0≤10:=by
  have e:(rSt n d).getD k []=(rSt n d)[k]:=by simp[List.getD,hk]
  rw[e]
  exact h.smem (List.getElem_mem hk)
theorem RtOk.fget {n:Int}{d:List Int}(h:RtOk n d){L:List (List Int)}(hp:Pre L (rFd n d)){k:Nat}(hk:k<L.length):(L.getD k []).length=n.toNat∧(∀ j,0≤(L.getD k []).getD j 0∧(L.getD k []).getD j 0≤10):=by
  have e:L.getD k []=L[k]:=by simp[List.getD,hk]
  have hm:L[k]∈rFd n d:=hp.mem (List.getElem_mem hk)
  rw[e]
  exact⟨h.len _ hm,h.ent _ hm⟩
theorem posL_step {n:Int}{d x:List Int}{i:Nat}(hx:∀ j,0≤x.getD j 0)(hi:i<x.length):posL (rStep n d x i)=decide (0≤(rStep n d x i).getD i 0):=by
  have hg:∀ k,k≠i→(rStep n d x i).getD k 0=x.getD k 0:=fun k hk=>by rw[rStep,set_getD_ne (fun e=>hk e.symm)]
  cases e:decide (0≤(rStep n d x i).getD i 0) with
  | true =>
    have h0:=of_decide_eq_true e
    simp only[posL,Bool.not_eq_true',List.any_eq_false,decide_eq_true_eq]
    intro y hy
    obtain⟨k,hk,rfl⟩:=List.mem_iff_getElem.1 hy
    have e2:(rStep n d x i).getD k 0=(rStep n d x i)[k]:=by simp[List.getD,hk]
    rw[← e2]
    by_cases hki:k=i
    · subst hki
      omega
    · rw[hg k hki]
      have:=hx k
      omega
  | false =>
    have h0:=of_decide_eq_false e
    simp only[posL,Bool.not_eq_false',List.any_eq_true,decide_eq_true_eq]
    have hl:i<(rStep n d x i).length:=by rw[rStep_len];exact hi
    refine⟨(rStep n d x i)[i],List.getElem_mem hl,?_⟩
    have e2:(rStep n d x i).getD i 0=(rStep n d x i)[i]:=by simp[List.getD,hl]
    rw[← e2]
    omega
end Go.Proofs.YtbmnnbglipkidaaGreatDoor
