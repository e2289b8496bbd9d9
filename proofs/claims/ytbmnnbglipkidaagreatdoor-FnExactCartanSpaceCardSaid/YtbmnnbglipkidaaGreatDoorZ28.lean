/-
  Plain facts for the walks through the two texts that tell the parts of a matrix; no program is spoken of.
-/
import Derived.Test.YtbmnnbglipkidaaGreatDoorCarQ
import Derived.Test.YtbmnnbglipkidaaGreatDoorCartL
namespace Go.Proofs.YtbmnnbglipkidaaGreatDoor
set_option maxRecDepth 100000
set_option linter.unusedVariables false
set_option linter.unusedSimpArgs false
theorem foldl_inv {α:Type}{I:α→Prop}{f:α→Nat→α}{l:List Nat}(h:∀ a x,x∈l→I a→I (f a x)):∀ a,I a→I (l.foldl f a):=by
  induction l with
  | nil=>exact fun a ha=>ha
  | cons x l ih=>exact fun a ha=>ih (fun a y hy=>h a y (by simp[hy])) _ (h a x (by simp) ha)
def Good (n:Int)(o:List Int):Prop:=o.Nodup∧∀ y∈o,0≤y∧y<n
theorem partStep_good {n:Int}{d:List Int}{k:Nat}{o:List Int}(h:Good n o):Good n (partStep n d k o):=by
  unfold partStep
  refine foldl_inv (I:=Good n) (fun a x hx ha=>?_) o h
  simp only[List.mem_range] at hx
  split
  · rename_i hc
    simp only[Bool.and_eq_true,Bool.not_eq_true'] at hc
    have hn:(x:Int) ∉ a:=by simpa using hc.2
    exact⟨nodup_snoc ha.1 hn,rng_snoc ha.2 ⟨by omega,by omega⟩⟩
  · exact ha
theorem partL_good {n:Int}{d:List Int}:∀ (f:Nat) {o:List Int} {k:Nat},Good n o→Good n (partL n d f o k)
  | 0,_,_,h=>h
  | f+1,o,k,h=>by
    unfold partL
    split
    · exact partL_good f (partStep_good h)
    · exact h
theorem partF_good {n:Int}{d:List Int}{i:Int}(hi:0≤i∧i<n):Good n (partF n d i):=partL_good _ ⟨by simp,by simpa using hi⟩
theorem partF_len {n:Int}{d:List Int}{i:Int}(hi:0≤i∧i<n):(partF n d i).length≤n.toNat:=len_rng (partF_good hi).1 (partF_good hi).2
theorem tm_td {n:Int}{i:Nat}(hn:1≤n)(hi:(i:Int)<n*n):0≤(i:Int).tmod n∧(i:Int).tmod n<n∧0≤(i:Int).tdiv n∧(i:Int).tdiv n<n:=by
  have h1:(i:Int).tmod n=(i:Int)%n:=Int.tmod_eq_emod_of_nonneg (by omega)
  have h2:(i:Int).tdiv n=(i:Int) / n:=Int.tdiv_eq_ediv_of_nonneg (by omega)
  rw[h1,h2]
  exact⟨Int.emod_nonneg _ (by omega),Int.emod_lt_of_pos _ (by omega),Int.ediv_nonneg (by omega) (by omega),Int.ediv_lt_of_lt_mul (by omega) hi⟩
theorem wrap_td {n:Int}{i:Nat}(hn:1≤n∧n≤4)(hi:(i:Int)<n*n):IntKind.i64.wrap ((i:Int).tdiv n)=(i:Int).tdiv n:=by
  have:=tm_td hn.1 hi
  exact wrap_in (by omega) (by omega)
theorem partsF_succ (n:Int)(d:List Int)(i:Nat):partsF n d (i+1)=partsStep n d (partsF n d i) i:=foldl_succ _ _ _
theorem partsF_skip {n:Int}{d:List Int}{i:Nat}{ks:List Nat}{dn:List Int}(h:partsF n d i=some (ks,dn))(hc:dn.contains (i:Int)=true):partsF n d (i+1)=some (ks,dn):=by
  rw[partsF_succ,h]
  simp only[partsStep,Option.bind_some]
  rw[if_pos hc]
theorem partsF_add {n:Int}{d:List Int}{i k:Nat}{ks:List Nat}{dn:List Int}(h:partsF n d i=some (ks,dn))(hc:dn.contains (i:Int)=false)(hf:foundF n d (partF n d i) 12=some k):partsF n d (i+1)=some (insF ks k,dn++partF n d i):=by
  rw[partsF_succ,h]
  simp only[partsStep,Option.bind_some,hc,hf]
  rfl
theorem partsF_bad {n:Int}{d:List Int}{i:Nat}{ks:List Nat}{dn:List Int}(h:partsF n d i=some (ks,dn))(hc:dn.contains (i:Int)=false)(hf:foundF n d (partF n d i) 12=none):partsF n d (i+1)=none:=by
  rw[partsF_succ,h]
  simp only[partsStep,Option.bind_some,hc,hf]
  rfl
theorem partsF_none {n:Int}{d:List Int}{i:Nat}(h:partsF n d i=none):∀ k,partsF n d (i+k)=none
  | 0=>h
  | k+1=>by
    rw[← Nat.add_assoc,partsF_succ,partsF_none h k]
    rfl
theorem foundF_succ (n:Int)(d rows:List Int)(m:Nat):foundF n d rows (m+1)=if rk m==rows.length&&fitsF n d rows (rk m) (oneD m) 5 [] then some m else foundF n d rows m:=foldl_succ _ _ _
theorem foundF_lt {n:Int}{d rows:List Int}:∀ {m k:Nat},foundF n d rows m=some k→k<m
  | 0,k,h=>by simp[foundF] at h
  | m+1,k,h=>by
    rw[foundF_succ] at h
    split at h
    · simp only[Option.some.injEq] at h
      omega
    · have:=foundF_lt h
      omega
def nameO (o:Option Nat):ByteArray:=match o with | some k=>nameB k | none=>⟨#[]⟩
theorem nameO_empty {o:Option Nat}(h:∀ k,o=some k→k<12):strEq (nameO o) ⟨#[]⟩=o.isNone:=by
  simp only[strEq,toList_data]
  cases o with
  | none=>rfl
  | some k =>
    have key:∀ k,k<12→((nameB k).data.toList==([]:List UInt8))=false:=by decide
    exact key k (h k rfl)
theorem nm_gt:∀ i,i<12→∀ j,j<12→(!strLe (nameB i) (nameB j))=decide (j<i):=by
  simp only[strLe,toList_data]
  decide
theorem ins_eq {ks:List Nat}{a k:Nat}{o:Option Nat}(ho:o=some k)(ha:insAt ks k ks.length=a):(([]++((ks.map nameB).drop 0).take (a - 0))++[nameO o])++((ks.map nameB).drop a).take ((ks.map nameB).length - a)=(insF ks k).map nameB:=by
  subst ha ho
  simp only[insF,nameO,List.nil_append,List.drop_zero,Nat.sub_zero,List.map_append,List.map_take,List.map_drop,List.map_cons,List.map_nil]
  congr 1
  exact List.take_of_length_le (by simp)
theorem insAt_le (l:List Nat)(k:Nat):∀ a,insAt l k a≤a
  | 0=>Nat.le_refl _
  | a+1=>by
    unfold insAt
    split
    · have:=insAt_le l k a
      omega
    · exact Nat.le_refl _
theorem insF_len (ks:List Nat)(k:Nat):(insF ks k).length=ks.length+1:=by
  have:=insAt_le ks k ks.length
  simp only[insF,List.length_append,List.length_take,List.length_drop,List.length_singleton]
  omega
theorem insF_lt {ks:List Nat}{k:Nat}(h:∀ x∈ks,x<12)(hk:k<12):∀ x∈insF ks k,x<12:=by
  intro x hx
  simp only[insF,List.mem_append,List.mem_singleton] at hx
  rcases hx with(hx | hx) | hx
  · exact h x (List.mem_of_mem_take hx)
  · exact hx ▸ hk
  · exact h x (List.mem_of_mem_drop hx)
def psN (o:Option (List Nat)):List ByteArray:=match o with | some ks=>ks.map nameB | none=>[]
theorem tyS_not {n:Int}{d:List Int}(h:okI n d=false):tyS n d=none:=by
  rw[tyS,h]
  rfl
theorem tyS_bad {n:Int}{d:List Int}{i:Nat}(h:okI n d=true)(hi:i<d.length)(hb:badE n d i=true):tyS n d=none:=by
  rw[tyS,h,if_pos rfl,if_pos (any_hit hi hb)]
theorem tyS_eq {n:Int}{d:List Int}(h:okI n d=true)(hb:(List.range d.length).any (badE n d)=false):tyS n d=(partsF n d n.toNat).map (·.1):=by
  rw[tyS,h,if_pos rfl,hb]
  rfl
theorem okI_of {n:Int}{d:List Int}(h1:inB n 1 4=true)(h2:(d.length:Int)=n*n):okI n d=true:=by simp[okI,h1,h2]
theorem okI_no {n:Int}{d:List Int}(h:inB n 1 4=false∨(d.length:Int)≠n*n):okI n d=false:=by
  unfold okI
  rcases h with h | h <;> simp[h]
theorem psN_none {o:Option (List Nat)}(h:o=none):psN o = []∧o.isSome=false:=by
  subst h
  exact⟨rfl,rfl⟩
theorem psN_some {o:Option (List Nat)}{ks:List Nat}(h:o=some ks):psN o=ks.map nameB∧o.isSome=true:=by
  subst h
  exact⟨rfl,rfl⟩
theorem getD_mapB {ks:List Nat}{a:Nat}(h:a<ks.length):(ks.map nameB).getD a ⟨#[]⟩=nameB (ks.getD a 0):=by simp[List.getD,h]
theorem getD_lt {ks:List Nat}(h:∀ x∈ks,x<12)(a:Nat):ks.getD a 0<12:=by
  by_cases ha:a<ks.length
  · have e:ks.getD a 0=ks[a]:=by simp[List.getD,ha]
    rw[e]
    exact h _ (List.getElem_mem ha)
  · simp[List.getD,List.getElem?_eq_none (Nat.le_of_not_lt ha)]
def tyN (o:Option (List Nat)):ByteArray:=joinP (psN o)
theorem isNone_not {o:Option Nat}(h:o.isNone=false):∃ k,o=some k:=by
  cases o with
  | none=>cases h
  | some k=>exact⟨k,rfl⟩
theorem sqr_bd {x:Int}(h:1≤x∧x≤4) : -9223372036854775808≤x*x∧x*x≤9223372036854775807:=by
  have h1:0≤x*x:=Int.mul_nonneg (by omega) (by omega)
  have h2:x*x≤4*4:=Int.mul_le_mul (by omega) (by omega) (by omega) (by omega)
  omega
theorem int_of_beq {a b:Int}(h:(a==b)=true):a=b:=beq_iff_eq.1 h
end Go.Proofs.YtbmnnbglipkidaaGreatDoor
namespace Go.Proofs.YtbmnnbglipkidaaGreatDoor
set_option maxRecDepth 100000
set_option linter.unusedVariables false
set_option linter.unusedSimpArgs false
def tyG (f:Nat)(r:Int)(i:Nat):List (List Nat):=if r.toNat<rk i then[] else(typesF f (r.toNat - rk i) i).map (i :: ·)
theorem typesF_pos {f:Nat}{r a:Int}(h:0<r):typesF (f+1) r.toNat a.toNat=(List.range' a.toNat (12 - a.toNat)).flatMap (tyG f r):=by
  rw[typesF,if_neg (by omega)]
  rfl
theorem typesF_zero {f:Nat}{r a:Int}(h:r=0):typesF (f+1) r.toNat a.toNat = [[]]:=by
  rw[typesF,if_pos (by omega)]
theorem range_app {α:Type}(g:Nat→List α)(a p:Nat):(List.range' a (p+1)).flatMap g=(List.range' a p).flatMap g++g (a+p):=by
  rw[List.range'_concat,List.flatMap_append]
  simp
theorem ty_skip {f p:Nat}{r a:Int}{T:List (List Nat)}(ha:0≤a)(hT:T=(List.range' a.toNat p).flatMap (tyG f r))(h:r<(rk (a+(p:Int)).toNat:Int))(hr:0≤r):T=(List.range' a.toNat (p+1)).flatMap (tyG f r):=by
  have e:(a+(p:Int)).toNat=a.toNat+p:=by omega
  rw[e] at h
  have:tyG f r (a.toNat+p) = []:=by
    unfold tyG
    rw[if_pos (by omega)]
  rw[range_app,← hT,this,List.append_nil]
theorem ty_add {f p:Nat}{r a:Int}{T T2:List (List Nat)}{j:Nat}(ha:0≤a)(hT:T=(List.range' a.toNat p).flatMap (tyG f r))(h : ¬ r<(rk (a+(p:Int)).toNat:Int))
    (hT2:T2=T++((typesF f (r - (rk (a+(p:Int)).toNat:Int)).toNat (a+(p:Int)).toNat).take j).map ((a+(p:Int)).toNat :: ·)) (hj:(typesF f (r - (rk (a+(p:Int)).toNat:Int)).toNat (a+(p:Int)).toNat).length≤j) :
    T2=(List.range' a.toNat (p+1)).flatMap (tyG f r):=by
  rw[List.take_of_length_le hj] at hT2
  have e:(a+(p:Int)).toNat=a.toNat+p:=by omega
  have e2:(r - (rk (a.toNat+p):Int)).toNat=r.toNat - rk (a.toNat+p):=by omega
  rw[e] at h
  have:tyG f r (a.toNat+p)=(typesF f (r - (rk (a+(p:Int)).toNat:Int)).toNat (a+(p:Int)).toNat).map ((a+(p:Int)).toNat :: ·):=by
    unfold tyG
    rw[if_neg (by omega),e,e2]
  rw[range_app,← hT,this]
  exact hT2
theorem ty_push {T2 D:List (List Nat)}{X j:Nat}(hj:j<D.length):T2.map (·.map nameB)++[[nameL.getD X ⟨#[]⟩]++(D.map (·.map nameB)).getD j []]=(T2++[X::D.getD j []]).map (·.map nameB):=by
  rw[List.map_append]
  congr 1
  simp[List.getD,hj,nameB,nameL]
theorem ty_take {T D T2:List (List Nat)}{X j:Nat}(hT2:T2=T++(D.take j).map (X :: ·))(hj:j<D.length):T2++[X::D.getD j []]=T++(D.take (j+1)).map (X :: ·):=by
  have e:D.take (j+1)=D.take j++[D.getD j []]:=by
    rw[List.take_add_one,List.getElem?_eq_getElem hj]
    simp[List.getD,hj]
  rw[e,hT2]
  simp
theorem typesF_len:∀ f,f<6→∀ r,r<5→∀ a,a<13→(typesF f r a).length≤20:=by decide +kernel
theorem typesF_all:∀ f,f<6→∀ r,r<5→∀ a,a<13→(typesF f r a).all (fun ks=>Nat.ble ks.length 4)=true:=by decide +kernel
theorem typesF_el (f:Nat)(hf:f<6)(r:Nat)(hr:r<5)(a:Nat)(ha:a<13)(j:Nat):(((typesF f r a).map (·.map nameB)).getD j []).length≤4:=by
  by_cases hj:j<(typesF f r a).length
  · have h:=List.all_eq_true.1 (typesF_all f hf r hr a ha) ((typesF f r a)[j]) (List.getElem_mem hj)
    have:=Nat.le_of_ble_eq_true h
    simpa [List.getD,hj] using this
  · simp[List.getD,List.getElem?_eq_none (Nat.le_of_not_lt hj)]
theorem nm_rk' {a:Int}{p:Nat}(h:0≤a∧a+p<12):IntKind.u8.wrap (bAt (nameL.getD (a+(p:Int)).toNat ⟨#[]⟩) 1 - 48)=(rk (a+(p:Int)).toNat:Int):=nm_rk _ (by omega)
def tyOk (n:Nat)(ks:List Nat):Bool:=(scanL 6 [] (joinP (ks.map nameB)).data.toList==some ks)&&Nat.beq (rkS ks) n&&Nat.ble (joinP (ks.map nameB)).size 20&&Nat.ble ks.length 4
theorem tyOk_all:∀ n,1≤n→n≤4→(typesF 5 n 0).all (tyOk n)=true:=fun n h1 h4=>four (P:=fun n=>(typesF 5 n 0).all (tyOk n)=true) (by decide +kernel) (by decide +kernel) (by decide +kernel) (by decide +kernel) h1 h4
theorem ty_at {cr:Int}{ks:List Nat}(h:1≤cr∧cr≤4)(hk:ks∈typesF 5 cr.toNat 0):cF (joinP (ks.map nameB))=some ks∧(rkS ks:Int)=cr∧(joinP (ks.map nameB)).size≤20∧ks.length≤4:=by
  have:=List.all_eq_true.1 (tyOk_all cr.toNat (by omega) (by omega)) ks hk
  simp only[tyOk,Bool.and_eq_true,beq_iff_eq] at this
  obtain⟨⟨⟨h1,h2⟩,h3⟩,h4⟩:=this
  have e:=Nat.eq_of_beq_eq_true h2
  exact⟨h1,by omega,Nat.le_of_ble_eq_true h3,Nat.le_of_ble_eq_true h4⟩
theorem ty_mem {T:List (List Nat)}{i:Nat}(h:i<T.length):T.getD i []∈T:=by
  have e:T.getD i []=T[i]:=by simp[List.getD,h]
  rw[e]
  exact List.getElem_mem h
theorem map_at {T:List (List Nat)}{i:Nat}(h:i<T.length):(T.map (·.map nameB)).getD i []=(T.getD i []).map nameB:=by simp[List.getD,h]
theorem find_at {α:Type}{p:α→Bool}{T:List α}{i:Nat}{d:α}(h:i<T.length)(hn:(T.take i).any p=false)(hp:p (T.getD i d)=true):T.find? p=some (T.getD i d):=by
  have e:T.getD i d=T[i]:=by simp[List.getD,h]
  rw[e] at hp ⊢
  rw[List.find?_eq_some_iff_getElem]
  refine⟨hp,i,h,rfl,fun j hj=>?_⟩
  have:=List.any_eq_false.1 hn (T[j]'(by omega)) (List.mem_take_iff_getElem.2 ⟨j,by omega,rfl⟩)
  simpa using this
theorem find_no {α:Type}{p:α→Bool}{T:List α}(hn:T.any p=false):T.find? p=none:=by
  rw[List.find?_eq_none]
  exact fun x hx=>by simpa using List.any_eq_false.1 hn x hx
theorem tyI_no {n:Int}{d:List Int}(h:okI n d=false):tyI n d=none:=by
  rw[tyI,h]
  rfl
theorem tyI_eq {n:Int}{d:List Int}(h:okI n d=true):tyI n d=(typesF 5 n.toNat 0).find? fun ks=>reordF n d (matOf ks).2 5 []:=by
  rw[tyI,h]
  rfl
theorem tyN_no {o:Option (List Nat)}(h:o=none):tyN o=⟨#[]⟩:=by
  rw[h]
  rfl
theorem tyN_at {o:Option (List Nat)}{ks:List Nat}(h:o=some ks):tyN o=joinP (ks.map nameB):=by
  rw[h]
  rfl
def tyNe (n:Nat)(ks:List Nat):Bool := !((joinP (ks.map nameB)).data.toList == [])
theorem tyNe_all:∀ n,1≤n→n≤4→(typesF 5 n 0).all (tyNe n)=true:=fun n h1 h4=>four (P:=fun n=>(typesF 5 n 0).all (tyNe n)=true) (by decide +kernel) (by decide +kernel) (by decide +kernel) (by decide +kernel) h1 h4
theorem tyN_empty (n:Int)(d:List Int):(!strEq (tyN (tyS n d)) ⟨#[]⟩)=(tyS n d).isSome:=by
  rw[tyS_tyI]
  cases h:tyI n d with
  | none =>
    simp only[strEq,toList_data]
    rfl
  | some ks =>
    have hk:∃ m:Nat,n=m∧1≤m∧m≤4∧ks∈typesF 5 m 0:=by
      unfold tyI at h
      split at h
      · rename_i hok
        obtain⟨m,rfl,h1,h4,_⟩:=okI_nat hok
        exact⟨m,rfl,h1,h4,by simpa using List.mem_of_find?_eq_some h⟩
      · simp at h
    obtain⟨m,rfl,h1,h4,hm⟩:=hk
    have:=List.all_eq_true.1 (tyNe_all m h1 h4) ks hm
    simp only[tyN,psN,strEq,toList_data,Option.isSome_some]
    exact this
end Go.Proofs.YtbmnnbglipkidaaGreatDoor
namespace Go.Proofs.YtbmnnbglipkidaaGreatDoor
set_option maxRecDepth 100000
set_option linter.unusedVariables false
set_option linter.unusedSimpArgs false
def wtOk (n:Int)(x:List Int):Bool:=((x.length:Int)==n) && !(x.any fun y => !(inB y (-1000) 1000))
theorem wtOk_len {n:Int}{x:List Int}(h:wtOk n x=true):(x.length:Int)=n:=by
  simp only[wtOk,Bool.and_eq_true,beq_iff_eq] at h
  exact h.1
theorem tyS_ok {n:Int}{d:List Int}(h:(tyS n d).isSome=true):(1≤n∧n≤4)∧(d.length:Int)=n*n:=by
  obtain⟨ks,hk⟩:=Option.isSome_iff_exists.1 h
  unfold tyS at hk
  split at hk
  · rename_i hok
    simp only[okI,Bool.and_eq_true,decide_eq_true_eq] at hok
    exact⟨inB_true hok.1,hok.2⟩
  · simp at hk
def wtI (n:Int)(d x:List Int)(o:List Int)(i:Nat):List Int:=(List.range x.length).foldl (fun(o:List Int) (j:Nat)=>o.set i (IntKind.i64.wrap (o.getD i 0+IntKind.i64.wrap (atI n d i j*x.getD j 0)))) o
def wtF (n:Int)(d x:List Int):List Int:=(List.range n.toNat).foldl (wtI n d x) (List.replicate n.toNat 0)
theorem len_fold {f:List Int→Nat→List Int}(hf:∀ o i,(f o i).length=o.length):∀ (l:List Nat) (o:List Int),(l.foldl f o).length=o.length
  | [],_=>rfl
  | x::l,o=>by rw[List.foldl_cons,len_fold hf l,hf]
theorem wtF_len (n:Int)(d x:List Int):(wtF n d x).length=n.toNat:=by
  unfold wtF
  rw[len_fold (f:=wtI n d x) (fun o i=>len_fold (fun o j=>by simp) _ _),List.length_replicate]
def rfI (n:Int)(d:List Int)(i:Int)(w o:List Int)(k:Nat):List Int:=o.set k (IntKind.i64.wrap (o.getD k 0 - IntKind.i64.wrap (w.getD i.toNat 0*atI n d k i)))
def rfF (n:Int)(d:List Int)(i:Int)(w:List Int):List Int:=(List.range w.length).foldl (rfI n d i w) w
theorem rfF_len (n:Int)(d:List Int)(i:Int)(w:List Int):(rfF n d i w).length=w.length:=len_fold (fun o k=>by simp[rfI]) _ _
theorem drop_getD {xs:List Int}{q:Nat}(h:q<xs.length):xs.drop q=xs.getD q 0::xs.drop (q+1):=by
  rw[List.drop_eq_getElem_cons h]
  simp[List.getD,h]
def arI (n:Int)(d:List Int)(i:Int)(o:List Int):List Int:=o.set i.toNat (IntKind.i64.wrap (o.getD i.toNat 0 - (wtF n d o).getD i.toNat 0))
theorem set_getD_ne {o:List Int}{k t:Nat}{v:Int}(h:k≠t):(o.set k v).getD t 0=o.getD t 0:=by simp[List.getD,h]
end Go.Proofs.YtbmnnbglipkidaaGreatDoor
