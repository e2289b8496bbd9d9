/-
  The positive roots of a Cartan matrix: found one from another, put in order: what both texts do, in plain words; that it ends and stays small is checked by the kernel for all Cartan matrices. No program is spoken of.
-/
import Derived.Test.YtbmnnbglipkidaaGreatDoorZ40
namespace Go.Proofs.YtbmnnbglipkidaaGreatDoor
set_option maxRecDepth 100000
set_option linter.unusedVariables false
set_option linter.unusedSimpArgs false
theorem Uc {o:List Int}{i:Nat}(h:i<o.length):o.set i (o.getD i 0)=o:=by simp[List.getD,h]
def AK (n:Int)(d x:List Int)(i:Nat):List Int:=x.set i (x.getD i 0 - dotN (fun k=>atI n d i k) (x.getD · 0) n.toNat)
theorem D7 (n:Int)(d x:List Int)(i:Nat):(AK n d x i).length=x.length:=by simp[AK]
theorem FN {a x:Nat→Int}:∀ {m:Nat},(∀ k,k<m→(-3≤a k∧a k≤3) ∧ -1000≤x k∧x k≤1000) → -(3000*(m:Int))≤dotN a x m∧dotN a x m≤3000*(m:Int)
  | 0,_=>by simp[dotN]
  | m+1,h=>by
    have h1:=FN (m:=m) fun k hk=>h k (by omega)
    obtain⟨h2,h3⟩:=h m (by omega)
    have h4:=O7 (B:=1000) (x:=x m) (a:=a m) h3 h2
    rw[Int.mul_comm (x m)] at h4
    rw[dotN]
    omega
theorem Tw {n:Int}{d x o:List Int}{i:Nat}(hd:∀ y∈d, -3≤y∧y≤3)(hx:∀ k,k<x.length → -1000≤x.getD k 0∧x.getD k 0≤1000)(hl:x.length≤4)(hi:i<o.length)(h0:o.getD i 0=0) :
    ∀ m:Nat,m≤x.length→(List.range m).foldl (fun(o:List Int) (j:Nat)=>o.set i (IntKind.i64.wrap (o.getD i 0+IntKind.i64.wrap (atI n d i j*x.getD j 0)))) o=o.set i (dotN (fun k=>atI n d i k) (x.getD · 0) m)
  | 0,_=>by
    have:=Uc hi
    rw[h0] at this
    exact this.symm
  | m+1,hm=>by
    have hb:=FN (a:=fun k=>atI n d i k) (x:=(x.getD · 0)) (m:=m) fun k hk=>⟨Nb hd i k,hx k (by omega)⟩
    have h4:=O7 (B:=1000) (hx m (by omega)) (Nb (n:=n) hd i m)
    rw[Int.mul_comm (x.getD m 0)] at h4
    rw[A6,Tw hd hx hl hi h0 m (by omega),BE hi,List.set_set,dotN,Aj (x:=atI n d i m*x.getD m 0) (by omega) (by omega),Aj (by omega) (by omega)]
theorem QH {n:Int}{d x:List Int}(hd:∀ y∈d, -3≤y∧y≤3)(hx:∀ k,k<x.length → -1000≤x.getD k 0∧x.getD k 0≤1000)(hn:x.length=n.toNat)(h4:n.toNat≤4) :
    ∀ m:Nat,m≤n.toNat→((List.range m).foldl (ZD n d x) (List.replicate n.toNat 0)).length=n.toNat∧∀ k,k<n.toNat→((List.range m).foldl (ZD n d x) (List.replicate n.toNat 0)).getD k 0=if k<m then dotN (fun j=>atI n d k j) (x.getD · 0) n.toNat else 0
  | 0,_=>by
    refine⟨by simp,fun k hk=>?_⟩
    rw[if_neg (by omega)]
    simp[List.getD,hk]
  | m+1,hm=>by
    obtain⟨h1,h2⟩:=QH hd hx hn h4 m (by omega)
    have h0:=h2 m (by omega)
    rw[if_neg (by omega)] at h0
    have e:=Tw (n:=n) hd hx (by omega) (o:=(List.range m).foldl (ZD n d x) (List.replicate n.toNat 0)) (i:=m) (by omega) h0 x.length (Nat.le_refl _)
    have e2:(List.range (m+1)).foldl (ZD n d x) (List.replicate n.toNat 0)=((List.range m).foldl (ZD n d x) (List.replicate n.toNat 0)).set m (dotN (fun k=>atI n d m k) (x.getD · 0) x.length):=by
      rw[A6]
      exact e
    rw[e2]
    refine⟨by rw[List.length_set];exact h1,fun k hk=>?_⟩
    by_cases hkm:k=m
    · subst hkm
      rw[BE (by omega),if_pos (by omega),hn]
    · rw[Br (by omega),h2 k hk]
      by_cases h:k<m
      · rw[if_pos h,if_pos (by omega)]
      · rw[if_neg h,if_neg (by omega)]
theorem GR {n:Int}{d x:List Int}(hd:∀ y∈d, -3≤y∧y≤3)(hx:∀ k,k<x.length → -1000≤x.getD k 0∧x.getD k 0≤1000)(hn:x.length=n.toNat)(h4:n.toNat≤4){i:Nat}(hi:i<n.toNat) :
    (wtF n d x).getD i 0=dotN (fun j=>atI n d i j) (x.getD · 0) n.toNat ∧ -12000≤(wtF n d x).getD i 0∧(wtF n d x).getD i 0≤12000:=by
  have h:=(QH hd hx hn h4 n.toNat (Nat.le_refl _)).2 i hi
  rw[if_pos hi] at h
  have hb:=FN (a:=fun k=>atI n d i k) (x:=(x.getD · 0)) (m:=n.toNat) fun k hk=>⟨Nb hd i k,hx k (by omega)⟩
  have e:(wtF n d x).getD i 0=_:=h
  refine⟨e,?_⟩
  rw[e]
  omega
theorem VF {n:Int}{d x:List Int}{i:Int}(hd:∀ y∈d, -3≤y∧y≤3)(hx:∀ k,k<x.length → -1000≤x.getD k 0∧x.getD k 0≤1000)(hn:x.length=n.toNat)(h4:n.toNat≤4)(hi:i.toNat<n.toNat):arI n d i x=AK n d x i.toNat:=by
  obtain⟨h1,h2⟩:=GR hd hx hn h4 hi
  have h3:=hx i.toNat (by omega)
  rw[arI,AK,Aj (by omega) (by omega),h1]
theorem TW {n:Int}{d x:List Int}{i:Nat}(hd:∀ y∈d, -3≤y∧y≤3)(hx:∀ k,k<x.length → -1000≤x.getD k 0∧x.getD k 0≤1000)(hn:x.length=n.toNat)(h4:n.toNat≤4)(hi:i<n.toNat):Af x (0 - (wtF n d x).getD i 0) (unitL n.toNat i)=AK n d x i:=by
  obtain⟨h1,h2⟩:=GR hd hx hn h4 hi
  have hul:(unitL n.toNat i).length=n.toNat:=by simp[unitL]
  refine A0 (by rw[AQ,D7]) fun k hk=>?_
  rw[AQ] at hk
  have hg:=CC (g:=fun t (v:Int)=>IntKind.i64.wrap (v+IntKind.i64.wrap ((0 - (wtF n d x).getD i 0)*(unitL n.toNat i).getD t 0))) (o:=x) (m:=(unitL n.toNat i).length) (k:=k) (by omega) hk
  rw[if_pos (by omega)] at hg
  refine Eq.trans hg ?_
  have hu:(unitL n.toNat i).getD k 0=if k=i then 1 else 0:=by
    have:k<n.toNat:=by omega
    simp[unitL,List.getD,this]
  have h3:=hx k hk
  rw[hu,AK]
  by_cases e:k=i
  · subst e
    rw[if_pos rfl,BE hk,Int.mul_one,Aj (x:=0 - (wtF n d x).getD k 0) (by omega) (by omega),Aj (by omega) (by omega),h1]
    omega
  · rw[if_neg e,Br (by omega),Int.mul_zero,Aj (x:=0) (by omega) (by omega),Int.add_zero,Aj (by omega) (by omega)]
def EJ (x:List Int):Bool := !(x.any fun y=>decide (y<0))
def plF (L:List (List Int))(x:List Int):Int:=Hs (fun y=>Cu y x) L
theorem P1 {L:List (List Int)}{x:List Int}:decide (plF L x<0) = !(L.contains x):=by
  rw[plF,Mo]
  congr 1
  rw[Bool.eq_iff_iff]
  simp[Cu,List.any_eq_true]
def DI (n:Int)(d x:List Int)(L:List (List Int))(i:Nat):List (List Int):=if EJ (AK n d x i) && !(L.contains (AK n d x i)) then L++[AK n d x i] else L
def fm (n:Int)(d x:List Int)(L:List (List Int)):List (List Int):=(List.range n.toNat).foldl (DI n d x) L
def rC (n:Int)(d:List Int):Nat→List (List Int)→Nat→Option (List (List Int))
  | 0,_,_=>none
  | f+1,L,k=>if k<L.length then rC n d f (fm n d (L.getD k []) L) (k+1) else some L
def rFd (n:Int)(d:List Int):List (List Int):=(rC n d 40 (LV n) 0).getD []
def Pre (L R:List (List Int)):Prop:=∃ T,R=L++T
theorem Pre.refl (L:List (List Int)):Pre L L:=⟨[],by simp⟩
theorem Pre.trans {L M R:List (List Int)}(h:Pre L M)(k:Pre M R):Pre L R:=by
  obtain⟨T,rfl⟩:=h
  obtain⟨U,rfl⟩:=k
  exact⟨T++U,by simp⟩
theorem Pre.len {L R:List (List Int)}(h:Pre L R):L.length≤R.length:=by
  obtain⟨T,rfl⟩:=h
  simp
theorem Pre.mem {L R:List (List Int)}(h:Pre L R){x:List Int}(hx:x∈L):x∈R:=by
  obtain⟨T,rfl⟩:=h
  simp[hx]
theorem Pre.get {L R:List (List Int)}(h:Pre L R){k:Nat}(hk:k<L.length):R.getD k []=L.getD k []:=by
  obtain⟨T,rfl⟩:=h
  simp[List.getD,List.getElem?_append_left hk]
theorem Vp {n:Int}{d x:List Int}{L:List (List Int)}{i:Nat}:Pre L (DI n d x L i):=by
  unfold DI
  split
  · exact⟨_,rfl⟩
  · exact Pre.refl _
theorem HU {n:Int}{d x:List Int}{L:List (List Int)}{i:Nat}:∀ {m:Nat},i≤m→Pre ((List.range i).foldl (DI n d x) L) ((List.range m).foldl (DI n d x) L)
  | 0,h=>by
    have:i=0:=by omega
    subst this
    exact Pre.refl _
  | m+1,h=>by
    by_cases e:i=m+1
    · subst e
      exact Pre.refl _
    · rw[A6]
      exact(HU (by omega)).trans Vp
theorem FM {n:Int}{d:List Int}:∀ {f:Nat} {L R:List (List Int)} {k:Nat},rC n d f L k=some R→Pre L R
  | 0,_,_,_,h=>by cases h
  | f+1,L,R,k,h=>by
    rw[rC] at h
    split at h
    · exact(HU (i:=0) (Nat.zero_le _)).trans (FM h)
    · cases h
      exact Pre.refl _
theorem RB {n:Int}{d:List Int}{f:Nat}{L R:List (List Int)}{k:Nat}(h:rC n d f L k=some R)(hk:k<L.length):∃ g,f=g+1∧rC n d g (fm n d (L.getD k []) L) (k+1)=some R∧∀ i,i≤n.toNat→Pre ((List.range i).foldl (DI n d (L.getD k [])) L) R:=by
  cases f with
  | zero=>cases h
  | succ f =>
    rw[rC,if_pos hk] at h
    exact⟨f,rfl,h,fun i hi=>(HU hi).trans (FM h)⟩
theorem VD {n:Int}{d:List Int}{f:Nat}{L R:List (List Int)}{k:Nat}(h:rC n d f L k=some R)(hk:L.length≤k):L=R:=by
  cases f with
  | zero=>cases h
  | succ f =>
    rw[rC,if_neg (by omega)] at h
    simpa using h
def Ci (x:List Int):Int:=(List.range x.length).foldl (fun(s:Int) (i:Nat)=>IntKind.i64.wrap (s+x.getD i 0)) 0
def Er (x y:List Int):Int:=if Ea (Ci x) (Ci y)≠0 then Ea (Ci x) (Ci y) else cmpL y x
def Sr (x y:List Int):Bool:=if Ci x≠Ci y then decide (Ci x<Ci y) else Hu x y
def S5 (x y:List Int):Bool:=decide (Er x y<0)
def fQ (x:List Int):Int:=if x.getD 0 0≠0 then x.getD 0 0 else x.getD 1 0
theorem gL {x:List Int}(_:x.length=2):fQ x=if x.getD 0 0≠0 then x.getD 0 0 else x.getD 1 0:=rfl
theorem dY {x:List Int}{k:Nat}(hx:x.length=2)(hk:k<x.length)(ht:∀ j,j<k→x.getD j 0=0)(h:x.getD k 0≠0):(if x.getD 0 0≠0 then x.getD 0 0 else x.getD 1 0)=x.getD k 0:=by
  rcases(by omega:k=0∨k=1) with rfl | rfl
  · rw[if_pos h]
  · rw[if_neg (fun e=>e (ht 0 (by omega)))]
theorem dQ {x:List Int}{k:Nat}(hx:x.length=2)(hk:x.length≤k)(ht:∀ j,j<k→x.getD j 0=0):(if x.getD 0 0≠0 then x.getD 0 0 else x.getD 1 0)=0:=by
  rw[if_neg (fun e=>e (ht 0 (by omega))),ht 1 (by omega)]
theorem cmpI_cases (a b:Int):(a<b∧Ea a b = -1)∨(a=b∧Ea a b=0)∨(b<a∧Ea a b=1):=by
  unfold Ea
  by_cases h1:a<b
  · exact .inl ⟨h1,if_pos h1⟩
  · by_cases h2:b<a
    · exact .inr (.inr ⟨h2,by rw[if_neg h1,if_pos h2]⟩)
    · exact .inr (.inl ⟨by omega,by rw[if_neg h1,if_neg h2]⟩)
theorem cmpL_cons (a b:Int)(s t:List Int):(a<b∧cmpL (a::s) (b::t) = -1)∨(a=b∧cmpL (a::s) (b::t)=cmpL s t)∨(b<a∧cmpL (a::s) (b::t)=1):=by
  rcases cmpI_cases a b with⟨h1,h2⟩ | ⟨h1,h2⟩ | ⟨h1,h2⟩
  · exact .inl ⟨h1,by rw[cmpL,h2,if_pos (by omega)]⟩
  · exact .inr (.inl ⟨h1,by rw[cmpL,h2,if_neg (by omega)]⟩)
  · exact .inr (.inr ⟨h1,by rw[cmpL,h2,if_pos (by omega)]⟩)
theorem Gh (b:Int)(t:List Int):cmpL [] (b::t) = -1:=by simp[cmpL]
theorem Do (b:Int)(t:List Int):cmpL (b::t) []=1:=rfl
theorem Kz:∀ x y:List Int,cmpL y x = -(cmpL x y)
  | [],[]=>by simp[cmpL]
  | [],b::t=>by rw[Gh,Do];rfl
  | a::s,[]=>by rw[Gh,Do]
  | a::s,b::t=>by
    rcases cmpL_cons a b s t with⟨h1,h2⟩ | ⟨h1,h2⟩ | ⟨h1,h2⟩ <;> rcases cmpL_cons b a t s with⟨g1,g2⟩ | ⟨g1,g2⟩ | ⟨g1,g2⟩ <;> first
      | omega
      | (rw[h2,g2];exact Kz s t)
theorem Me:∀ {x y:List Int},cmpL x y=0→x=y
  | [],[],_=>rfl
  | [],b::t,h=>by rw[Gh] at h;omega
  | a::s,[],h=>by rw[Do] at h;omega
  | a::s,b::t,h=>by
    rcases cmpL_cons a b s t with⟨h1,h2⟩ | ⟨h1,h2⟩ | ⟨h1,h2⟩
    · omega
    · rw[h1,Me (h2.symm.trans h)]
    · omega
theorem RX (x:List Int):cmpL x x=0:=by
  have:=Kz x x
  omega
theorem KI:∀ {x y z:List Int},cmpL x y<0→cmpL y z<0→cmpL x z<0
  | [],[],[],h,_=>by rw[RX] at h;omega
  | [],b::t,[],_,h=>by rw[Do] at h;omega
  | [],_,c::u,_,_=>by rw[Gh];omega
  | a::s,[],_,h,_=>by rw[Do] at h;omega
  | a::s,b::t,[],_,h=>by rw[Do] at h;omega
  | a::s,b::t,c::u,h,k=>by
    rcases cmpL_cons a b s t with⟨h1,h2⟩ | ⟨h1,h2⟩ | ⟨h1,h2⟩ <;> rcases cmpL_cons b c t u with⟨g1,g2⟩ | ⟨g1,g2⟩ | ⟨g1,g2⟩ <;> rcases cmpL_cons a c s u with⟨k1,k2⟩ | ⟨k1,k2⟩ | ⟨k1,k2⟩ <;> first
      | omega
      | (rw[k2];exact KI (by rw[← h2];exact h) (by rw[← g2];exact k))
theorem rcmp_cases (x y:List Int):(Ci x<Ci y∧Er x y = -1)∨(Ci x=Ci y∧Er x y=cmpL y x)∨(Ci y<Ci x∧Er x y=1):=by
  rcases cmpI_cases (Ci x) (Ci y) with⟨h1,h2⟩ | ⟨h1,h2⟩ | ⟨h1,h2⟩
  · exact .inl ⟨h1,by rw[Er,h2,if_pos (by omega)]⟩
  · exact .inr (.inl ⟨h1,by rw[Er,h2,if_neg (by omega)]⟩)
  · exact .inr (.inr ⟨h1,by rw[Er,h2,if_pos (by omega)]⟩)
theorem EO (x y:List Int):Er y x = -(Er x y):=by
  have:=Kz x y
  rcases rcmp_cases x y with⟨h1,h2⟩ | ⟨h1,h2⟩ | ⟨h1,h2⟩ <;> rcases rcmp_cases y x with⟨g1,g2⟩ | ⟨g1,g2⟩ | ⟨g1,g2⟩ <;> omega
theorem GG {x y:List Int}(h:Er x y=0):x=y:=by
  rcases rcmp_cases x y with⟨h1,h2⟩ | ⟨h1,h2⟩ | ⟨h1,h2⟩
  · omega
  · exact(Me (h2.symm.trans h)).symm
  · omega
theorem K0 {x y z:List Int}(h:Er x y<0)(k:Er y z<0):Er x z<0:=by
  rcases rcmp_cases x y with⟨h1,h2⟩ | ⟨h1,h2⟩ | ⟨h1,h2⟩ <;> rcases rcmp_cases y z with⟨g1,g2⟩ | ⟨g1,g2⟩ | ⟨g1,g2⟩ <;> rcases rcmp_cases x z with⟨k1,k2⟩ | ⟨k1,k2⟩ | ⟨k1,k2⟩ <;> first
    | omega
    | (rw[k2];exact KI (by rw[← g2];exact k) (by rw[← h2];exact h))
theorem RO {x y:List Int}(h:S5 x y=false)(k:S5 y x=false):x=y:=by
  have h1:=of_decide_eq_false h
  have h2:=of_decide_eq_false k
  have:=EO x y
  exact GG (by omega)
theorem XM (x:List Int):S5 x x=false:=decide_eq_false (by have:=EO x x;omega)
theorem Ps {x y z:List Int}(h:S5 x y=false)(k:S5 y z=false):S5 x z=false:=by
  cases e:S5 x z with
  | false=>rfl
  | true =>
    exfalso
    have h1:=of_decide_eq_false h
    have h2:=of_decide_eq_false k
    have h3:Er x z<0:=of_decide_eq_true e
    have n1:=EO x y
    have n2:=EO y z
    have n3:=EO x z
    by_cases e1:Er x y=0
    · rw[← GG e1] at h2
      omega
    · by_cases e2:Er y z=0
      · rw[GG e2] at h1
        omega
      · have:=K0 (x:=z) (y:=y) (z:=x) (by omega) (by omega)
        omega
def CT (x:List Int)(L:List (List Int)):Nat→Nat
  | 0=>0
  | a+1=>if Sr x (L.getD a []) then CT x L a else a+1
def Lf (L:List (List Int))(x:List Int):List (List Int):=L.take (CT x L L.length)++[x]++L.drop (CT x L L.length)
def rSt (n:Int)(d:List Int):List (List Int):=(rFd n d).foldl Lf []
theorem LF (x:List Int)(L:List (List Int)):∀ a:Nat,CT x L a≤a
  | 0=>Nat.le_refl _
  | a+1=>by
    have:=LF x L a
    rw[CT]
    split
    · omega
    · exact Nat.le_refl _
theorem TP (L:List (List Int))(x:List Int):(Lf L x).length=L.length+1:=by
  have:=LF x L L.length
  simp[Lf]
  omega
def Qw:List (List Int)→Bool
  | []=>true
  | x::t=>(t.all fun y => !(S5 y x))&&Qw t
theorem Nt:∀ {L:List (List Int)},Qw L=true→L.Pairwise fun a b=>S5 b a=false
  | [],_ => .nil
  | x::t,h=>by
    simp only[Qw,Bool.and_eq_true,List.all_eq_true,Bool.not_eq_true'] at h
    exact .cons h.1 (Nt h.2)
def X8:List (List Int)→Bool
  | []=>true
  | x::t => !(t.contains x)&&X8 t
theorem P9:∀ {L:List (List Int)},X8 L=true→L.Nodup
  | [],_ => .nil
  | x::t,h=>by
    simp only[X8,Bool.and_eq_true,Bool.not_eq_true',List.contains_iff_mem] at h
    exact List.nodup_cons.2 ⟨by simpa using h.1,P9 h.2⟩
def X1 (n:Int)(d:List Int):Bool :=
  (rC n d 40 (LV n) 0).isSome&&((rFd n d).all fun x=>(x.length==n.toNat)&&x.all fun y=>decide (0≤y)&&decide (y≤10))&&decide ((rFd n d).length≤30)&&X8 (rFd n d)&&Qw (rSt n d)&&(rSt n d).isPerm (rFd n d)
def Gt (n a b:Nat):Bool:=(((Bt n).drop a).take b).all fun d=>X1 n d
theorem Xp:Gt 1 0 1000=true:=by decide +kernel
theorem YE:Gt 2 0 1000=true:=by decide +kernel
theorem X4:Gt 3 0 1000=true:=by decide +kernel
theorem TD:Gt 4 0 80=true:=by decide +kernel
theorem U6:Gt 4 80 80=true:=by decide +kernel
theorem VU:Gt 4 160 1000=true:=by decide +kernel
theorem R9 {m:Nat}{d:List Int}(h1:1≤m)(h4:m≤4)(hd:d∈Bt m):X1 m d=true:=by
  have one:∀ n,Gt n 0 1000=true→(Bt n).length≤1000→d∈Bt n→X1 n d=true:=fun n h hl hd=>by
    simp only[Gt,List.all_eq_true] at h
    exact h d (by rw[List.drop_zero,List.take_of_length_le hl];exact hd)
  have len:∀ n,1≤n→n≤4→(Bt n).length≤1000:=fun n a b=>four (P:=fun n=>(Bt n).length≤1000) (by decide +kernel) (by decide +kernel) (by decide +kernel) (by decide +kernel) a b
  rcases(by omega:m=1∨m=2∨m=3∨m=4) with rfl | rfl | rfl | rfl
  · exact one 1 Xp (len 1 (by omega) (by omega)) hd
  · exact one 2 YE (len 2 (by omega) (by omega)) hd
  · exact one 3 X4 (len 3 (by omega) (by omega)) hd
  · have ha:=TD
    have hb:=U6
    have hc:=VU
    simp only[Gt,List.all_eq_true] at ha hb hc
    rcases mem_parts 80 hd with h | h
    · exact ha d h
    · rcases mem_parts 80 h with h2 | h2
      · exact hb d (by simpa using h2)
      · rw[List.drop_drop] at h2
        exact hc d (by
          have hl:=len 4 (by omega) (by omega)
          rw[List.take_of_length_le (by rw[List.length_drop];omega)]
          simpa using h2)
structure RtOk (n:Int)(d:List Int):Prop where
  run:rC n d 40 (LV n) 0=some (rFd n d)
  len:∀ x∈rFd n d,x.length=n.toNat
  ent:∀ x∈rFd n d,∀ k,0≤x.getD k 0∧x.getD k 0≤10
  few:(rFd n d).length≤30
  nod:(rFd n d).Nodup
  pair:(rSt n d).Pairwise fun a b=>S5 b a=false
  perm:(rSt n d).Perm (rFd n d)
  mat:∀ x∈d, -3≤x∧x≤3
  lo:1≤n.toNat
  rk:n.toNat≤4
theorem rtOk {n:Int}{d:List Int}(h:(Ax n d).isSome=true):RtOk n d:=by
  obtain⟨ks,hk⟩:=Option.isSome_iff_exists.1 h
  obtain⟨m,rfl,h1,h4,hd⟩:=D3 hk
  have hp:=gE h
  have h0:=R9 h1 h4 hd
  simp only[X1,Bool.and_eq_true,List.all_eq_true,decide_eq_true_eq,beq_iff_eq] at h0
  obtain⟨⟨⟨⟨⟨a1,a2⟩,a3⟩,a4⟩,a5⟩,a6⟩:=h0
  obtain⟨R,hR⟩:=Option.isSome_iff_exists.1 a1
  have e:rFd m d=R:=by rw[rFd,hR];rfl
  refine⟨by rw[e];exact hR,fun x hx=>(a2 x hx).1,fun x hx k=>?_,a3,P9 a4,Nt a5,List.isPerm_iff.1 a6,hp.ent,by omega,hp.rk⟩
  by_cases hkl:k<x.length
  · have e2:x.getD k 0=x[k]:=by simp[List.getD,hkl]
    rw[e2]
    exact(a2 x hx).2 _ (List.getElem_mem hkl)
  · simp[List.getD,List.getElem?_eq_none (Nat.le_of_not_lt hkl)]
theorem RtOk.sorted {n:Int}{d:List Int}(h:RtOk n d){L:List (List Int)}(hp:L.Perm (rFd n d))(hs:L.Pairwise fun a b=>S5 b a=false):L=rSt n d :=
  List.Perm.eq_of_pairwise (le:=fun a b=>S5 b a=false) (fun _ _ _ _ h1 h2=>RO h2 h1) hs h.pair (hp.trans h.perm.symm)
theorem RtOk.slen {n:Int}{d:List Int}(h:RtOk n d):(rSt n d).length=(rFd n d).length:=h.perm.length_eq
theorem RtOk.smem {n:Int}{d:List Int}(h:RtOk n d){x:List Int}(hx:x∈rSt n d):x.length=n.toNat∧∀ k,0≤x.getD k 0∧x.getD k 0≤10:=⟨h.len x (h.perm.mem_iff.1 hx),h.ent x (h.perm.mem_iff.1 hx)⟩
theorem RtOk.sget {n:Int}{d:List Int}(h:RtOk n d){k:Nat}(hk:k<(rSt n d).length):((rSt n d).getD k []).length=n.toNat∧∀ j,0≤((rSt n d).getD k []).getD j 0∧((rSt n d).getD k []).getD j 0≤10:=by
  have e:(rSt n d).getD k []=(rSt n d)[k]:=by simp[List.getD,hk]
  rw[e]
  exact h.smem (List.getElem_mem hk)
theorem RtOk.fget {n:Int}{d:List Int}(h:RtOk n d){L:List (List Int)}(hp:Pre L (rFd n d)){k:Nat}(hk:k<L.length):(L.getD k []).length=n.toNat∧(∀ j,0≤(L.getD k []).getD j 0∧(L.getD k []).getD j 0≤10):=by
  have e:L.getD k []=L[k]:=by simp[List.getD,hk]
  have hm:L[k]∈rFd n d:=hp.mem (List.getElem_mem hk)
  rw[e]
  exact⟨h.len _ hm,h.ent _ hm⟩
theorem Mi {n:Int}{d x:List Int}{i:Nat}(hx:∀ j,0≤x.getD j 0)(hi:i<x.length):EJ (AK n d x i)=decide (0≤(AK n d x i).getD i 0):=by
  have hg:∀ k,k≠i→(AK n d x i).getD k 0=x.getD k 0:=fun k hk=>by rw[AK,Br (fun e=>hk e.symm)]
  cases e:decide (0≤(AK n d x i).getD i 0) with
  | true =>
    have h0:=of_decide_eq_true e
    simp only[EJ,Bool.not_eq_true',List.any_eq_false,decide_eq_true_eq]
    intro y hy
    obtain⟨k,hk,rfl⟩:=List.mem_iff_getElem.1 hy
    have e2:(AK n d x i).getD k 0=(AK n d x i)[k]:=by simp[List.getD,hk]
    rw[← e2]
    by_cases hki:k=i
    · subst hki
      omega
    · rw[hg k hki]
      have:=hx k
      omega
  | false =>
    have h0:=of_decide_eq_false e
    simp only[EJ,Bool.not_eq_false',List.any_eq_true,decide_eq_true_eq]
    have hl:i<(AK n d x i).length:=by rw[D7];exact hi
    refine⟨(AK n d x i)[i],List.getElem_mem hl,?_⟩
    have e2:(AK n d x i).getD i 0=(AK n d x i)[i]:=by simp[List.getD,hl]
    rw[← e2]
    omega
end Go.Proofs.YtbmnnbglipkidaaGreatDoor
