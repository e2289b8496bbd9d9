/-
  Plain facts for the walks through the two texts that tell the parts of a matrix; no program is spoken of.
-/
import Derived.Test.YtbmnnbglipkidaaGreatDoorZ56
import Derived.Test.YtbmnnbglipkidaaGreatDoorCartL
namespace Go.Proofs.YtbmnnbglipkidaaGreatDoor
set_option maxRecDepth 100000
set_option linter.unusedVariables false
set_option linter.unusedSimpArgs false
theorem Sm {α:Type}{I:α→Prop}{f:α→Nat→α}{l:List Nat}(h:∀ a x,x∈l→I a→I (f a x)):∀ a,I a→I (l.foldl f a):=by
  induction l with
  | nil=>exact fun a ha=>ha
  | cons x l ih=>exact fun a ha=>ih (fun a y hy=>h a y (by simp[hy])) _ (h a x (by simp) ha)
def Good (n:Int)(o:List Int):Prop:=o.Nodup∧∀ y∈o,0≤y∧y<n
theorem Lm {n:Int}{d:List Int}{k:Nat}{o:List Int}(h:Good n o):Good n (DA n d k o):=by
  unfold DA
  refine Sm (I:=Good n) (fun a x hx ha=>?_) o h
  simp only[List.mem_range] at hx
  split
  · rename_i hc
    simp only[Bool.and_eq_true,Bool.not_eq_true'] at hc
    have hn:(x:Int) ∉ a:=by simpa using hc.2
    exact⟨KU ha.1 hn,EY ha.2 ⟨by omega,by omega⟩⟩
  · exact ha
theorem Ks {n:Int}{d:List Int}:∀ (f:Nat) {o:List Int} {k:Nat},Good n o→Good n (Fy n d f o k)
  | 0,_,_,h=>h
  | f+1,o,k,h=>by
    unfold Fy
    split
    · exact Ks f (Lm h)
    · exact h
theorem Es {n:Int}{d:List Int}{i:Int}(hi:0≤i∧i<n):Good n (partF n d i):=Ks _ ⟨by simp,by simpa using hi⟩
theorem LA {n:Int}{d:List Int}{i:Int}(hi:0≤i∧i<n):(partF n d i).length≤n.toNat:=HS (Es hi).1 (Es hi).2
theorem aC {n:Int}{i:Nat}(hn:1≤n)(hi:(i:Int)<n*n):0≤(i:Int).tmod n∧(i:Int).tmod n<n∧0≤(i:Int).tdiv n∧(i:Int).tdiv n<n:=by
  have h1:(i:Int).tmod n=(i:Int)%n:=Int.tmod_eq_emod_of_nonneg (by omega)
  have h2:(i:Int).tdiv n=(i:Int) / n:=Int.tdiv_eq_ediv_of_nonneg (by omega)
  rw[h1,h2]
  exact⟨Int.emod_nonneg _ (by omega),Int.emod_lt_of_pos _ (by omega),Int.ediv_nonneg (by omega) (by omega),Int.ediv_lt_of_lt_mul (by omega) hi⟩
theorem XN {n:Int}{i:Nat}(hn:1≤n∧n≤4)(hi:(i:Int)<n*n):IntKind.i64.wrap ((i:Int).tdiv n)=(i:Int).tdiv n:=by
  have:=aC hn.1 hi
  exact Aj (by omega) (by omega)
theorem DT (n:Int)(d:List Int)(i:Nat):BW n d (i+1)=Cx n d (BW n d i) i:=A6 _ _ _
theorem Oi {n:Int}{d:List Int}{i:Nat}{ks:List Nat}{dn:List Int}(h:BW n d i=some (ks,dn))(hc:dn.contains (i:Int)=true):BW n d (i+1)=some (ks,dn):=by
  rw[DT,h]
  simp only[Cx,Option.bind_some]
  rw[if_pos hc]
theorem Kx {n:Int}{d:List Int}{i k:Nat}{ks:List Nat}{dn:List Int}(h:BW n d i=some (ks,dn))(hc:dn.contains (i:Int)=false)(hf:C5 n d (partF n d i) 12=some k):BW n d (i+1)=some (Lo ks k,dn++partF n d i):=by
  rw[DT,h]
  simp only[Cx,Option.bind_some,hc,hf]
  rfl
theorem PK {n:Int}{d:List Int}{i:Nat}{ks:List Nat}{dn:List Int}(h:BW n d i=some (ks,dn))(hc:dn.contains (i:Int)=false)(hf:C5 n d (partF n d i) 12=none):BW n d (i+1)=none:=by
  rw[DT,h]
  simp only[Cx,Option.bind_some,hc,hf]
  rfl
theorem Hg {n:Int}{d:List Int}{i:Nat}(h:BW n d i=none):∀ k,BW n d (i+k)=none
  | 0=>h
  | k+1=>by
    rw[← Nat.add_assoc,DT,Hg h k]
    rfl
theorem DP (n:Int)(d rows:List Int)(m:Nat):C5 n d rows (m+1)=if rk m==rows.length&&CH n d rows (rk m) (oneD m) 5 [] then some m else C5 n d rows m:=A6 _ _ _
theorem GM {n:Int}{d rows:List Int}:∀ {m k:Nat},C5 n d rows m=some k→k<m
  | 0,k,h=>by simp[C5] at h
  | m+1,k,h=>by
    rw[DP] at h
    split at h
    · simp only[Option.some.injEq] at h
      omega
    · have:=GM h
      omega
def Cl (o:Option Nat):ByteArray:=match o with | some k=>Ap k | none=>⟨#[]⟩
theorem Om {o:Option Nat}(h:∀ k,o=some k→k<12):Cb (Cl o) ⟨#[]⟩=o.isNone:=by
  simp only[Cb,toList_data]
  cases o with
  | none=>rfl
  | some k =>
    have key:∀ k,k<12→((Ap k).data.toList==([]:List UInt8))=false:=by decide
    exact key k (h k rfl)
theorem fA:∀ i,i<12→∀ j,j<12→(!RN (Ap i) (Ap j))=decide (j<i):=by
  simp only[RN,toList_data]
  decide
theorem VX {ks:List Nat}{a k:Nat}{o:Option Nat}(ho:o=some k)(ha:EA ks k ks.length=a):(([]++((ks.map Ap).drop 0).take (a - 0))++[Cl o])++((ks.map Ap).drop a).take ((ks.map Ap).length - a)=(Lo ks k).map Ap:=by
  subst ha ho
  simp only[Lo,Cl,List.nil_append,List.drop_zero,Nat.sub_zero,List.map_append,List.map_take,List.map_drop,List.map_cons,List.map_nil]
  congr 1
  exact List.take_of_length_le (by simp)
theorem OL (l:List Nat)(k:Nat):∀ a,EA l k a≤a
  | 0=>Nat.le_refl _
  | a+1=>by
    unfold EA
    split
    · have:=OL l k a
      omega
    · exact Nat.le_refl _
theorem Ob (ks:List Nat)(k:Nat):(Lo ks k).length=ks.length+1:=by
  have:=OL ks k ks.length
  simp only[Lo,List.length_append,List.length_take,List.length_drop,List.length_singleton]
  omega
theorem QY {ks:List Nat}{k:Nat}(h:∀ x∈ks,x<12)(hk:k<12):∀ x∈Lo ks k,x<12:=by
  intro x hx
  simp only[Lo,List.mem_append,List.mem_singleton] at hx
  rcases hx with(hx | hx) | hx
  · exact h x (List.mem_of_mem_take hx)
  · exact hx ▸ hk
  · exact h x (List.mem_of_mem_drop hx)
def Vd (o:Option (List Nat)):List ByteArray:=match o with | some ks=>ks.map Ap | none=>[]
theorem Rt {n:Int}{d:List Int}(h:Rv n d=false):Ax n d=none:=by
  rw[Ax,h]
  rfl
theorem Rf {n:Int}{d:List Int}{i:Nat}(h:Rv n d=true)(hi:i<d.length)(hb:G9 n d i=true):Ax n d=none:=by
  rw[Ax,h,if_pos rfl,if_pos (M8 hi hb)]
theorem b8 {n:Int}{d:List Int}(h:Rv n d=true)(hb:(List.range d.length).any (G9 n d)=false):Ax n d=(BW n d n.toNat).map (·.1):=by
  rw[Ax,h,if_pos rfl,hb]
  rfl
theorem Vl {n:Int}{d:List Int}(h1:BZ n 1 4=true)(h2:(d.length:Int)=n*n):Rv n d=true:=by simp[Rv,h1,h2]
theorem M5 {n:Int}{d:List Int}(h:BZ n 1 4=false∨(d.length:Int)≠n*n):Rv n d=false:=by
  unfold Rv
  rcases h with h | h <;> simp[h]
theorem E0 {o:Option (List Nat)}(h:o=none):Vd o = []∧o.isSome=false:=by
  subst h
  exact⟨rfl,rfl⟩
theorem Tl {o:Option (List Nat)}{ks:List Nat}(h:o=some ks):Vd o=ks.map Ap∧o.isSome=true:=by
  subst h
  exact⟨rfl,rfl⟩
theorem SL {ks:List Nat}{a:Nat}(h:a<ks.length):(ks.map Ap).getD a ⟨#[]⟩=Ap (ks.getD a 0):=by simp[List.getD,h]
theorem Xx {ks:List Nat}(h:∀ x∈ks,x<12)(a:Nat):ks.getD a 0<12:=by
  by_cases ha:a<ks.length
  · have e:ks.getD a 0=ks[a]:=by simp[List.getD,ha]
    rw[e]
    exact h _ (List.getElem_mem ha)
  · simp[List.getD,List.getElem?_eq_none (Nat.le_of_not_lt ha)]
def XT (o:Option (List Nat)):ByteArray:=DB (Vd o)
theorem PZ {o:Option Nat}(h:o.isNone=false):∃ k,o=some k:=by
  cases o with
  | none=>cases h
  | some k=>exact⟨k,rfl⟩
theorem Uu {x:Int}(h:1≤x∧x≤4) : -9223372036854775808≤x*x∧x*x≤9223372036854775807:=by
  have h1:0≤x*x:=Int.mul_nonneg (by omega) (by omega)
  have h2:x*x≤4*4:=Int.mul_le_mul (by omega) (by omega) (by omega) (by omega)
  omega
theorem PL {a b:Int}(h:(a==b)=true):a=b:=beq_iff_eq.1 h
def Xe (f:Nat)(r:Int)(i:Nat):List (List Nat):=if r.toNat<rk i then[] else(typesF f (r.toNat - rk i) i).map (i :: ·)
theorem FX {f:Nat}{r a:Int}(h:0<r):typesF (f+1) r.toNat a.toNat=(List.range' a.toNat (12 - a.toNat)).flatMap (Xe f r):=by
  rw[typesF,if_neg (by omega)]
  rfl
theorem E1 {f:Nat}{r a:Int}(h:r=0):typesF (f+1) r.toNat a.toNat = [[]]:=by
  rw[typesF,if_pos (by omega)]
theorem LO {α:Type}(g:Nat→List α)(a p:Nat):(List.range' a (p+1)).flatMap g=(List.range' a p).flatMap g++g (a+p):=by
  rw[List.range'_concat,List.flatMap_append]
  simp
theorem Yi {f p:Nat}{r a:Int}{T:List (List Nat)}(ha:0≤a)(hT:T=(List.range' a.toNat p).flatMap (Xe f r))(h:r<(rk (a+(p:Int)).toNat:Int))(hr:0≤r):T=(List.range' a.toNat (p+1)).flatMap (Xe f r):=by
  have e:(a+(p:Int)).toNat=a.toNat+p:=by omega
  rw[e] at h
  have:Xe f r (a.toNat+p) = []:=by
    unfold Xe
    rw[if_pos (by omega)]
  rw[LO,← hT,this,List.append_nil]
theorem bR {f p:Nat}{r a:Int}{T T2:List (List Nat)}{j:Nat}(ha:0≤a)(hT:T=(List.range' a.toNat p).flatMap (Xe f r))(h : ¬ r<(rk (a+(p:Int)).toNat:Int))
    (hT2:T2=T++((typesF f (r - (rk (a+(p:Int)).toNat:Int)).toNat (a+(p:Int)).toNat).take j).map ((a+(p:Int)).toNat :: ·)) (hj:(typesF f (r - (rk (a+(p:Int)).toNat:Int)).toNat (a+(p:Int)).toNat).length≤j) :
    T2=(List.range' a.toNat (p+1)).flatMap (Xe f r):=by
  rw[List.take_of_length_le hj] at hT2
  have e:(a+(p:Int)).toNat=a.toNat+p:=by omega
  have e2:(r - (rk (a.toNat+p):Int)).toNat=r.toNat - rk (a.toNat+p):=by omega
  rw[e] at h
  have:Xe f r (a.toNat+p)=(typesF f (r - (rk (a+(p:Int)).toNat:Int)).toNat (a+(p:Int)).toNat).map ((a+(p:Int)).toNat :: ·):=by
    unfold Xe
    rw[if_neg (by omega),e,e2]
  rw[LO,← hT,this]
  exact hT2
theorem YI {T2 D:List (List Nat)}{X j:Nat}(hj:j<D.length):T2.map (·.map Ap)++[[Bp.getD X ⟨#[]⟩]++(D.map (·.map Ap)).getD j []]=(T2++[X::D.getD j []]).map (·.map Ap):=by
  rw[List.map_append]
  congr 1
  simp[List.getD,hj,Ap,Bp]
theorem Y3 {T D T2:List (List Nat)}{X j:Nat}(hT2:T2=T++(D.take j).map (X :: ·))(hj:j<D.length):T2++[X::D.getD j []]=T++(D.take (j+1)).map (X :: ·):=by
  have e:D.take (j+1)=D.take j++[D.getD j []]:=by
    rw[List.take_add_one,List.getElem?_eq_getElem hj]
    simp[List.getD,hj]
  rw[e,hT2]
  simp
theorem H8:∀ f,f<6→∀ r,r<5→∀ a,a<13→(typesF f r a).length≤20:=by decide +kernel
theorem PP:∀ f,f<6→∀ r,r<5→∀ a,a<13→(typesF f r a).all (fun ks=>Nat.ble ks.length 4)=true:=by decide +kernel
theorem LS (f:Nat)(hf:f<6)(r:Nat)(hr:r<5)(a:Nat)(ha:a<13)(j:Nat):(((typesF f r a).map (·.map Ap)).getD j []).length≤4:=by
  by_cases hj:j<(typesF f r a).length
  · have h:=List.all_eq_true.1 (PP f hf r hr a ha) ((typesF f r a)[j]) (List.getElem_mem hj)
    have:=Nat.le_of_ble_eq_true h
    simpa [List.getD,hj] using this
  · simp[List.getD,List.getElem?_eq_none (Nat.le_of_not_lt hj)]
theorem aU {a:Int}{p:Nat}(h:0≤a∧a+p<12):IntKind.u8.wrap (CW (Bp.getD (a+(p:Int)).toNat ⟨#[]⟩) 1 - 48)=(rk (a+(p:Int)).toNat:Int):=NK _ (by omega)
def bC (n:Nat)(ks:List Nat):Bool:=(Mc 6 [] (DB (ks.map Ap)).data.toList==some ks)&&Nat.beq (rkS ks) n&&Nat.ble (DB (ks.map Ap)).size 20&&Nat.ble ks.length 4
theorem VA:∀ n,1≤n→n≤4→(typesF 5 n 0).all (bC n)=true:=fun n h1 h4=>four (P:=fun n=>(typesF 5 n 0).all (bC n)=true) (by decide +kernel) (by decide +kernel) (by decide +kernel) (by decide +kernel) h1 h4
theorem dC {cr:Int}{ks:List Nat}(h:1≤cr∧cr≤4)(hk:ks∈typesF 5 cr.toNat 0):cF (DB (ks.map Ap))=some ks∧(rkS ks:Int)=cr∧(DB (ks.map Ap)).size≤20∧ks.length≤4:=by
  have:=List.all_eq_true.1 (VA cr.toNat (by omega) (by omega)) ks hk
  simp only[bC,Bool.and_eq_true,beq_iff_eq] at this
  obtain⟨⟨⟨h1,h2⟩,h3⟩,h4⟩:=this
  have e:=Nat.eq_of_beq_eq_true h2
  exact⟨h1,by omega,Nat.le_of_ble_eq_true h3,Nat.le_of_ble_eq_true h4⟩
theorem bY {T:List (List Nat)}{i:Nat}(h:i<T.length):T.getD i []∈T:=by
  have e:T.getD i []=T[i]:=by simp[List.getD,h]
  rw[e]
  exact List.getElem_mem h
theorem O0 {T:List (List Nat)}{i:Nat}(h:i<T.length):(T.map (·.map Ap)).getD i []=(T.getD i []).map Ap:=by simp[List.getD,h]
theorem YH {α:Type}{p:α→Bool}{T:List α}{i:Nat}{d:α}(h:i<T.length)(hn:(T.take i).any p=false)(hp:p (T.getD i d)=true):T.find? p=some (T.getD i d):=by
  have e:T.getD i d=T[i]:=by simp[List.getD,h]
  rw[e] at hp ⊢
  rw[List.find?_eq_some_iff_getElem]
  refine⟨hp,i,h,rfl,fun j hj=>?_⟩
  have:=List.any_eq_false.1 hn (T[j]'(by omega)) (List.mem_take_iff_getElem.2 ⟨j,by omega,rfl⟩)
  simpa using this
theorem XP {α:Type}{p:α→Bool}{T:List α}(hn:T.any p=false):T.find? p=none:=by
  rw[List.find?_eq_none]
  exact fun x hx=>by simpa using List.any_eq_false.1 hn x hx
theorem Vz {n:Int}{d:List Int}(h:Rv n d=false):S7 n d=none:=by
  rw[S7,h]
  rfl
theorem dr {n:Int}{d:List Int}(h:Rv n d=true):S7 n d=(typesF 5 n.toNat 0).find? fun ks=>BK n d (C3 ks).2 5 []:=by
  rw[S7,h]
  rfl
theorem PQ {o:Option (List Nat)}(h:o=none):XT o=⟨#[]⟩:=by
  rw[h]
  rfl
theorem cq {o:Option (List Nat)}{ks:List Nat}(h:o=some ks):XT o=DB (ks.map Ap):=by
  rw[h]
  rfl
def ft (n:Nat)(ks:List Nat):Bool := !((DB (ks.map Ap)).data.toList == [])
theorem UH:∀ n,1≤n→n≤4→(typesF 5 n 0).all (ft n)=true:=fun n h1 h4=>four (P:=fun n=>(typesF 5 n 0).all (ft n)=true) (by decide +kernel) (by decide +kernel) (by decide +kernel) (by decide +kernel) h1 h4
theorem Se (n:Int)(d:List Int):(!Cb (XT (Ax n d)) ⟨#[]⟩)=(Ax n d).isSome:=by
  rw[H2]
  cases h:S7 n d with
  | none =>
    simp only[Cb,toList_data]
    rfl
  | some ks =>
    have hk:∃ m:Nat,n=m∧1≤m∧m≤4∧ks∈typesF 5 m 0:=by
      unfold S7 at h
      split at h
      · rename_i hok
        obtain⟨m,rfl,h1,h4,_⟩:=M0 hok
        exact⟨m,rfl,h1,h4,by simpa using List.mem_of_find?_eq_some h⟩
      · simp at h
    obtain⟨m,rfl,h1,h4,hm⟩:=hk
    have:=List.all_eq_true.1 (UH m h1 h4) ks hm
    simp only[XT,Vd,Cb,toList_data,Option.isSome_some]
    exact this
def Dk (n:Int)(x:List Int):Bool:=((x.length:Int)==n) && !(x.any fun y => !(BZ y (-1000) 1000))
theorem Fc {n:Int}{x:List Int}(h:Dk n x=true):(x.length:Int)=n:=by
  simp only[Dk,Bool.and_eq_true,beq_iff_eq] at h
  exact h.1
theorem AB {n:Int}{d:List Int}(h:(Ax n d).isSome=true):(1≤n∧n≤4)∧(d.length:Int)=n*n:=by
  obtain⟨ks,hk⟩:=Option.isSome_iff_exists.1 h
  unfold Ax at hk
  split at hk
  · rename_i hok
    simp only[Rv,Bool.and_eq_true,decide_eq_true_eq] at hok
    exact⟨AX hok.1,hok.2⟩
  · simp at hk
def ZD (n:Int)(d x:List Int)(o:List Int)(i:Nat):List Int:=(List.range x.length).foldl (fun(o:List Int) (j:Nat)=>o.set i (IntKind.i64.wrap (o.getD i 0+IntKind.i64.wrap (atI n d i j*x.getD j 0)))) o
def wtF (n:Int)(d x:List Int):List Int:=(List.range n.toNat).foldl (ZD n d x) (List.replicate n.toNat 0)
theorem Co {f:List Int→Nat→List Int}(hf:∀ o i,(f o i).length=o.length):∀ (l:List Nat) (o:List Int),(l.foldl f o).length=o.length
  | [],_=>rfl
  | x::l,o=>by rw[List.foldl_cons,Co hf l,hf]
theorem Dj (n:Int)(d x:List Int):(wtF n d x).length=n.toNat:=by
  unfold wtF
  rw[Co (f:=ZD n d x) (fun o i=>Co (fun o j=>by simp) _ _),List.length_replicate]
def gM (n:Int)(d:List Int)(i:Int)(w o:List Int)(k:Nat):List Int:=o.set k (IntKind.i64.wrap (o.getD k 0 - IntKind.i64.wrap (w.getD i.toNat 0*atI n d k i)))
def rfF (n:Int)(d:List Int)(i:Int)(w:List Int):List Int:=(List.range w.length).foldl (gM n d i w) w
theorem YP (n:Int)(d:List Int)(i:Int)(w:List Int):(rfF n d i w).length=w.length:=Co (fun o k=>by simp[gM]) _ _
theorem B2 {xs:List Int}{q:Nat}(h:q<xs.length):xs.drop q=xs.getD q 0::xs.drop (q+1):=by
  rw[List.drop_eq_getElem_cons h]
  simp[List.getD,h]
def arI (n:Int)(d:List Int)(i:Int)(o:List Int):List Int:=o.set i.toNat (IntKind.i64.wrap (o.getD i.toNat 0 - (wtF n d o).getD i.toNat 0))
theorem Br {o:List Int}{k t:Nat}{v:Int}(h:k≠t):(o.set k v).getD t 0=o.getD t 0:=by simp[List.getD,h]
abbrev fV (n:Int)(d o:List Int)(r:Int)(j:Nat):Int:=IntKind.i64.wrap ((IntKind.i64.wrap (o.getD r.toNat 0*atI n d r j)).tdiv (atI n d j r))
def lsJ (n:Int)(d:List Int)(r:Int):Nat→Nat→List Int→Option (List Int)
  | 0,_,o=>some o
  | m+1,j,o=>if o.getD j 0==0&&atI n d r j != 0 then(if atI n d j r==0 then none else lsJ n d r m (j+1) (o.set j (fV n d o r j))) else lsJ n d r m (j+1) o
def liJ (n:Int)(d:List Int)(k:Nat):Nat→Nat→List Int→List Int→Option (List Int × List Int)
  | 0,_,o,p=>some (o,p)
  | m+1,j,o,p=>if o.getD j 0==0&&atI n d (p.getD k 0) j != 0 then(if atI n d j (p.getD k 0)==0 then none else liJ n d k m (j+1) (o.set j (fV n d o (p.getD k 0) j)) (p++[(j:Int)])) else liJ n d k m (j+1) o p
theorem sub_one {a b:Nat}(h:b<a):a - b=(a - (b+1))+1:=by omega
theorem Rl {n:Int}{d:List Int}{r:Int}{N j:Nat}{o x:List Int}(h:lsJ n d r (N - j) j o=some x)(hj:N≤j):o=x:=by
  rw[show N - j=0 by omega] at h
  simpa [lsJ] using h
theorem V0 {n:Int}{d:List Int}{r:Int}{N j:Nat}{o x:List Int}(h:lsJ n d r (N - j) j o=some x)(hj:j<N)(hc:(o.getD j 0==0&&atI n d r j != 0)=false):lsJ n d r (N - (j+1)) (j+1) o=some x:=by
  rw[sub_one hj,lsJ,hc] at h
  simpa using h
theorem ZK {n:Int}{d:List Int}{r:Int}{N j:Nat}{o x:List Int}(h:lsJ n d r (N - j) j o=some x)(hj:j<N)(h1:o.getD j 0=0)(h2:atI n d r j≠0):atI n d j r≠0∧lsJ n d r (N - (j+1)) (j+1) (o.set j (fV n d o r j))=some x:=by
  rw[sub_one hj,lsJ,if_pos (by rw[h1,bne_iff_ne.2 h2];rfl)] at h
  split at h
  · cases h
  · rename_i hz
    exact⟨fun e=>hz (by rw[e];rfl),h⟩
theorem YV {n:Int}{d:List Int}{k N j:Nat}{o p:List Int}{x:List Int × List Int}(h:liJ n d k (N - j) j o p=some x)(hj:N≤j):(o,p)=x:=by
  rw[show N - j=0 by omega] at h
  simpa [liJ] using h
theorem Xb {n:Int}{d:List Int}{k N j:Nat}{o p:List Int}{x:List Int × List Int}(h:liJ n d k (N - j) j o p=some x)(hj:j<N)(hc:(o.getD j 0==0&&atI n d (p.getD k 0) j != 0)=false):liJ n d k (N - (j+1)) (j+1) o p=some x:=by
  rw[sub_one hj,liJ,hc] at h
  simpa using h
theorem X2 {n:Int}{d:List Int}{k N j:Nat}{o p:List Int}{x:List Int × List Int}(h:liJ n d k (N - j) j o p=some x)(hj:j<N)(h1:o.getD j 0=0)(h2:atI n d (p.getD k 0) j≠0):atI n d j (p.getD k 0)≠0∧liJ n d k (N - (j+1)) (j+1) (o.set j (fV n d o (p.getD k 0) j)) (p++[(j:Int)])=some x:=by
  rw[sub_one hj,liJ,if_pos (by rw[h1,bne_iff_ne.2 h2];rfl)] at h
  split at h
  · cases h
  · rename_i hz
    exact⟨fun e=>hz (by rw[e];rfl),h⟩
theorem QQ {a b:Bool}(h:a=false):(a&&b)=false:=by rw[h];rfl
theorem Ri {a:Bool}{x:Int}(h:x=0):(a&&(x != 0))=false:=by rw[h];simp
def fO (o:List Int)(r a:Int):Int:=if o.getD r.toNat 0<a then o.getD r.toNat 0 else a
theorem Y8 {o:List Int}{r a:Int}(h:o.getD r.toNat 0<a):fO o r a=o.getD r.toNat 0:=if_pos h
theorem cH {o:List Int}{r a:Int}(h : ¬ o.getD r.toNat 0<a):fO o r a=a:=if_neg h
def lsK (n:Int)(d rows:List Int):Nat→Nat→List Int→Int→Option (List Int × Int)
  | 0,_,o,a=>some (o,a)
  | m+1,k,o,a=>(lsJ n d (rows.getD k 0) n.toNat 0 o).bind fun o2=>lsK n d rows m (k+1) o2 (fO o2 (rows.getD k 0) a)
theorem XZ {n:Int}{d rows:List Int}{N k:Nat}{o:List Int}{a:Int}{x:List Int × Int}(h:lsK n d rows (N - k) k o a=some x)(hj:N≤k):(o,a)=x:=by
  rw[show N - k=0 by omega] at h
  simpa [lsK] using h
theorem V4 {n:Int}{d rows:List Int}{N k:Nat}{o:List Int}{a:Int}{x:List Int × Int}(h:lsK n d rows (N - k) k o a=some x)(hj:k<N):∃ o2,lsJ n d (rows.getD k 0) (n.toNat - 0) 0 o=some o2∧lsK n d rows (N - (k+1)) (k+1) o2 (fO o2 (rows.getD k 0) a)=some x:=by
  rw[sub_one hj,lsK] at h
  exact Option.bind_eq_some_iff.1 h
def liK (n:Int)(d:List Int):Nat→Nat→List Int→List Int→Option (List Int × List Int)
  | 0,_,_,_=>none
  | f+1,k,o,p=>if k<p.length then(liJ n d k n.toNat 0 o p).bind fun x=>liK n d f (k+1) x.1 x.2 else some (o,p)
theorem Zu {n:Int}{d:List Int}{f k:Nat}{o p:List Int}{x:List Int × List Int}(h:liK n d f k o p=some x)(hk:p.length≤k):(o,p)=x:=by
  cases f with
  | zero=>cases h
  | succ f =>
    rw[liK,if_neg (by omega)] at h
    simpa using h
theorem VY {n:Int}{d:List Int}{f k:Nat}{o p:List Int}{x:List Int × List Int}(h:liK n d f k o p=some x)(hk:k<p.length):∃ g y q,f=g+1∧liJ n d k (n.toNat - 0) 0 o p=some (y,q)∧liK n d g (k+1) y q=some x:=by
  cases f with
  | zero=>cases h
  | succ f =>
    rw[liK,if_pos hk] at h
    obtain⟨y,h1,h2⟩:=Option.bind_eq_some_iff.1 h
    exact⟨f,y.1,y.2,rfl,h1,h2⟩
def fY (o p:List Int)(a:Int)(m:Nat):Int:=(List.range m).foldl (fun(a:Int) (t:Nat)=>min a (o.getD (p.getD t 0).toNat 0)) a
def dvL (p:List Int)(a:Int):Nat→Nat→List Int→Option (List Int)
  | 0,_,o=>some o
  | m+1,k,o=>if a==0 then none else dvL p a m (k+1) (o.set (p.getD k 0).toNat (IntKind.i64.wrap ((o.getD (p.getD k 0).toNat 0).tdiv a)))
theorem Rn {p:List Int}{a:Int}{N k:Nat}{o x:List Int}(h:dvL p a (N - k) k o=some x)(hj:N≤k):o=x:=by
  rw[show N - k=0 by omega] at h
  simpa [dvL] using h
theorem OC {p:List Int}{a:Int}{N k:Nat}{o x:List Int}(h:dvL p a (N - k) k o=some x)(hj:k<N):a≠0∧dvL p a (N - (k+1)) (k+1) (o.set (p.getD k 0).toNat (IntKind.i64.wrap ((o.getD (p.getD k 0).toNat 0).tdiv a)))=some x:=by
  rw[sub_one hj,dvL] at h
  split at h
  · cases h
  · rename_i hz
    exact⟨fun e=>hz (by rw[e];rfl),h⟩
def lsO (n:Int)(d:List Int):Nat→Nat→List Int→Option (List Int)
  | 0,_,o=>some o
  | m+1,i,o=>if o.getD i 0 != 0 then lsO n d m (i+1) o else(lsK n d (partF n d i) (partF n d i).length 0 (o.set i 6) 6).bind fun x=>(dvL (partF n d i) x.2 (partF n d i).length 0 x.1).bind fun o3=>lsO n d m (i+1) o3
def liO (n:Int)(d:List Int):Nat→Nat→List Int→Option (List Int)
  | 0,_,o=>some o
  | m+1,i,o=>if o.getD i 0 != 0 then liO n d m (i+1) o else(liK n d 6 0 (o.set i 36) [(i:Int)]).bind fun x=>(dvL x.2 (fY x.1 x.2 (x.1.getD i 0) x.2.length) x.2.length 0 x.1).bind fun o3=>liO n d m (i+1) o3
theorem Y7 {n:Int}{d:List Int}{N i:Nat}{o x:List Int}(h:lsO n d (N - i) i o=some x)(hj:N≤i):o=x:=by
  rw[show N - i=0 by omega] at h
  simpa [lsO] using h
theorem ZH {n:Int}{d:List Int}{N i:Nat}{o x:List Int}(h:liO n d (N - i) i o=some x)(hj:N≤i):o=x:=by
  rw[show N - i=0 by omega] at h
  simpa [liO] using h
theorem cc {n:Int}{d:List Int}{N i:Nat}{o x:List Int}(h:lsO n d (N - i) i o=some x)(hj:i<N)(hc:o.getD i 0≠0):lsO n d (N - (i+1)) (i+1) o=some x:=by
  rw[sub_one hj,lsO,if_pos (bne_iff_ne.2 hc)] at h
  exact h
theorem cv {n:Int}{d:List Int}{N i:Nat}{o x:List Int}(h:liO n d (N - i) i o=some x)(hj:i<N)(hc:o.getD i 0≠0):liO n d (N - (i+1)) (i+1) o=some x:=by
  rw[sub_one hj,liO,if_pos (bne_iff_ne.2 hc)] at h
  exact h
theorem YN {n:Int}{d:List Int}{N i:Nat}{o x:List Int}(h:lsO n d (N - i) i o=some x)(hj:i<N)(hc:o.getD i 0=0) :
    ∃ y a z,lsK n d (partF n d i) ((partF n d i).length - 0) 0 (o.set i 6) 6=some (y,a)∧dvL (partF n d i) a ((partF n d i).length - 0) 0 y=some z∧lsO n d (N - (i+1)) (i+1) z=some x:=by
  rw[sub_one hj,lsO,if_neg (by rw[hc];simp)] at h
  obtain⟨y,h1,h2⟩:=Option.bind_eq_some_iff.1 h
  obtain⟨z,h3,h4⟩:=Option.bind_eq_some_iff.1 h2
  exact⟨y.1,y.2,z,h1,h3,h4⟩
theorem ZE {n:Int}{d:List Int}{N i:Nat}{o x:List Int}(h:liO n d (N - i) i o=some x)(hj:i<N)(hc:o.getD i 0=0) :
    ∃ y q z,liK n d 6 0 (o.set i 36) [(i:Int)]=some (y,q)∧dvL q (fY y q (y.getD i 0) q.length) (q.length - 0) 0 y=some z∧liO n d (N - (i+1)) (i+1) z=some x:=by
  rw[sub_one hj,liO,if_neg (by rw[hc];simp)] at h
  obtain⟨y,h1,h2⟩:=Option.bind_eq_some_iff.1 h
  obtain⟨z,h3,h4⟩:=Option.bind_eq_some_iff.1 h2
  exact⟨y.1,y.2,z,h1,h3,h4⟩
def A3 (n:Int)(d:List Int):List Int:=(lsO n d n.toNat 0 (List.replicate n.toNat 0)).getD []
def cB (n:Nat):Bool:=(Bt n).all fun d=>(lsO n d n 0 (List.replicate n 0)==some (A3 n d))&&(liO n d n 0 (List.replicate n 0)==some (A3 n d))&&((A3 n d).length==n)
theorem UI {m:Nat}:1≤m→m≤4→cB m=true:=four (P:=fun m=>cB m=true) (by decide +kernel) (by decide +kernel) (by decide +kernel) (by decide +kernel)
theorem G3 {n:Int}{d:List Int}(h:(Ax n d).isSome=true):lsO n d (n.toNat - 0) 0 (List.replicate n.toNat 0)=some (A3 n d)∧liO n d (n.toNat - 0) 0 (List.replicate n.toNat 0)=some (A3 n d)∧(A3 n d).length=n.toNat:=by
  obtain⟨ks,hk⟩:=Option.isSome_iff_exists.1 h
  obtain⟨m,rfl,h1,h4,hd⟩:=D3 hk
  have:=UI h1 h4
  simp only[cB,List.all_eq_true] at this
  have:=this d hd
  simp only[Bool.and_eq_true,beq_iff_eq] at this
  exact⟨this.1.1,this.1.2,this.2⟩
def EH (n:Int)(d x y:List Int):Int:=(List.range x.length).foldl (fun(s:Int) (i:Nat)=>IntKind.i64.wrap (s+IntKind.i64.wrap (IntKind.i64.wrap (x.getD i 0*(A3 n d).getD i 0)*(wtF n d y).getD i 0))) 0
end Go.Proofs.YtbmnnbglipkidaaGreatDoor
