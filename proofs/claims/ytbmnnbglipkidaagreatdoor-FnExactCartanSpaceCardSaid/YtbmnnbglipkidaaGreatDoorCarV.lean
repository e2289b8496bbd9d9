/-
  Functionals that reflections permute: checked by the kernel for all Cartan matrices; no program is spoken of.
-/
import Derived.Test.YtbmnnbglipkidaaGreatDoorZ17
namespace Go.Proofs.YtbmnnbglipkidaaGreatDoor
set_option maxRecDepth 100000
set_option linter.unusedVariables false
set_option linter.unusedSimpArgs false
def dotN (c w:Nat→Int):Nat→Int
  | 0=>0
  | m+1=>dotN c w m+c m*w m
theorem dotN_congr {c c' w w':Nat→Int}:∀ {m:Nat},(∀ k,k<m→c k=c' k∧w k=w' k)→dotN c w m=dotN c' w' m
  | 0,_=>rfl
  | m+1,h=>by
    rw[dotN,dotN,dotN_congr fun k hk=>h k (by omega),(h m (by omega)).1,(h m (by omega)).2]
theorem dotN_sub (c w a:Nat→Int)(t:Int):∀ m:Nat,dotN c (fun k=>w k - t*a k) m=dotN c w m - t*dotN c a m
  | 0=>by simp[dotN]
  | m+1=>by
    rw[dotN,dotN,dotN,dotN_sub c w a t m,Int.mul_sub,Int.mul_add,Int.mul_left_comm (c m) t (a m)]
    omega
theorem dotN_upd (c w:Nat→Int)(i:Nat)(s:Int):∀ m:Nat,dotN (fun k=>if k=i then c k - s else c k) w m=dotN c w m - (if i<m then s*w i else 0)
  | 0=>by simp[dotN]
  | m+1=>by
    rw[dotN,dotN,dotN_upd c w i s m]
    by_cases h:m=i
    · subst h
      rw[if_pos rfl,if_neg (by omega),if_pos (by omega),Int.sub_mul]
      omega
    · rw[if_neg h]
      by_cases h2:i<m
      · rw[if_pos h2,if_pos (by omega)]
        omega
      · rw[if_neg h2,if_neg (by omega)]
        omega
theorem dotN_unit (w:Nat→Int)(i:Nat):∀ m:Nat,dotN (fun k=>if k=i then 1 else 0) w m=if i<m then w i else 0
  | 0=>by simp[dotN]
  | m+1=>by
    rw[dotN,dotN_unit w i m]
    by_cases h:m=i
    · subst h
      rw[if_neg (by omega),if_pos rfl,if_pos (by omega)]
      omega
    · rw[if_neg h]
      by_cases h2:i<m
      · rw[if_pos h2,if_pos (by omega)]
        omega
      · rw[if_neg h2,if_neg (by omega)]
        omega
theorem mul_bd {x a B:Int}(hx : -B≤x∧x≤B)(ha : -3≤a∧a≤3) : -(3*B)≤x*a∧x*a≤3*B:=by
  rcases(by omega:a = -3∨a = -2∨a = -1∨a=0∨a=1∨a=2∨a=3) with rfl | rfl | rfl | rfl | rfl | rfl | rfl <;> omega
theorem set_getD_eq {o:List Int}{k:Nat}{v:Int}(h:k<o.length):(o.set k v).getD k 0=v:=by simp[List.getD,h]
theorem fset_get {g:Nat→Int→Int}{o:List Int}:∀ {m k:Nat},m≤o.length→k<o.length→((List.range m).foldl (fun(o:List Int) (i:Nat)=>o.set i (g i (o.getD i 0))) o).getD k 0=if k<m then g k (o.getD k 0) else o.getD k 0
  | 0,k,_,_=>by simp
  | m+1,k,hm,hk=>by
    have hl:((List.range m).foldl (fun(o:List Int) (i:Nat)=>o.set i (g i (o.getD i 0))) o).length=o.length:=len_fold (fun o i=>by simp) _ _
    rw[foldl_succ]
    have ih:=fset_get (g:=g) (o:=o) (m:=m) (k:=m) (by omega) (by omega)
    rw[if_neg (by omega)] at ih
    by_cases h:k=m
    · subst h
      rw[if_pos (by omega),ih]
      exact set_getD_eq (by rw[hl];exact hk)
    · rw[set_getD_ne (by omega),fset_get (by omega) hk]
      by_cases h2:k<m
      · rw[if_pos h2,if_pos (by omega)]
      · rw[if_neg h2,if_neg (by omega)]
theorem ext_getD {x y:List Int}(hl:x.length=y.length)(h:∀ k,k<x.length→x.getD k 0=y.getD k 0):x=y:=by
  refine List.ext_getElem hl fun k h1 h2=>?_
  have:=h k h1
  simpa [List.getD,h1,h2] using this
theorem rfF_get {n:Int}{d:List Int}{i:Int}{w:List Int}{k:Nat}(hk:k<w.length):(rfF n d i w).getD k 0=IntKind.i64.wrap (w.getD k 0 - IntKind.i64.wrap (w.getD i.toNat 0*atI n d k i)):=by
  have h:=fset_get (g:=fun k (x:Int)=>IntKind.i64.wrap (x - IntKind.i64.wrap (w.getD i.toNat 0*atI n d k i))) (o:=w) (m:=w.length) (k:=k) (Nat.le_refl _) hk
  rw[if_pos hk] at h
  exact h
theorem atI_bd {n:Int}{d:List Int}(h:∀ x∈d, -3≤x∧x≤3)(i j:Int) : -3≤atI n d i j∧atI n d i j≤3:=by
  unfold atI
  by_cases hk:(i*n+j).toNat<d.length
  · have e:d.getD (i*n+j).toNat 0=d[(i*n+j).toNat]:=by simp[List.getD,hk]
    rw[e]
    exact h _ (List.getElem_mem hk)
  · have e:d.getD (i*n+j).toNat 0=0:=by simp[List.getD,List.getElem?_eq_none (Nat.le_of_not_lt hk)]
    rw[e]
    decide
theorem rfF_exact {n:Int}{d:List Int}{i:Int}{w:List Int}(hd:∀ x∈d, -3≤x∧x≤3)(hi:i.toNat<w.length)(hw:∀ k,k<w.length → -1000≤w.getD k 0∧w.getD k 0≤1000){k:Nat}(hk:k<w.length):(rfF n d i w).getD k 0=w.getD k 0 - w.getD i.toNat 0*atI n d k i:=by
  have h1:=mul_bd (hw _ hi) (atI_bd (n:=n) hd k i)
  have h2:=hw k hk
  rw[rfF_get hk,wrap_in (x:=w.getD i.toNat 0*atI n d k i) (by omega) (by omega),wrap_in (by omega) (by omega)]
def phStep (n:Int)(d c:List Int)(i:Nat):List Int:=c.set i (c.getD i 0 - dotN (c.getD · 0) (fun k=>atI n d k i) n.toNat)
def unitL (m i:Nat):List Int:=(List.range m).map fun k=>if k=i then 1 else 0
def phOne (n:Int)(d c:List Int)(L:List (List Int))(i:Nat):List (List Int):=if c==unitL n.toNat i || L.contains (phStep n d c i) then L else L++[phStep n d c i]
def phAdd (n:Int)(d c:List Int)(L:List (List Int)):List (List Int):=(List.range n.toNat).foldl (phOne n d c) L
def phC (n:Int)(d:List Int):Nat→List (List Int)→Nat→Option (List (List Int))
  | 0,_,_=>none
  | f+1,L,k=>if k<L.length then phC n d f (phAdd n d (L.getD k []) L) (k+1) else some L
def units (n:Int):List (List Int):=(List.range n.toNat).map (unitL n.toNat)
def phi (n:Int)(d:List Int):List (List Int):=(phC n d 40 (units n) 0).getD []
def ClAt (n:Int)(d:List Int)(L:List (List Int))(m:Nat)(c:List Int):Prop:=∀ i,i<m→c=unitL n.toNat i∨phStep n d c i∈L
theorem phOne_ext {n:Int}{d c:List Int}{L:List (List Int)}{i:Nat}:(∃ R,phOne n d c L i=L++R)∧(c=unitL n.toNat i∨phStep n d c i∈phOne n d c L i):=by
  unfold phOne
  split
  · rename_i h
    simp only[Bool.or_eq_true,beq_iff_eq,List.contains_iff_mem] at h
    exact⟨⟨[],by simp⟩,h⟩
  · exact⟨⟨_,rfl⟩,.inr (by simp)⟩
theorem phAdd_ext {n:Int}{d c:List Int}{L:List (List Int)}:∀ m:Nat,(∃ R,(List.range m).foldl (phOne n d c) L=L++R)∧ClAt n d ((List.range m).foldl (phOne n d c) L) m c
  | 0=>⟨⟨[],by simp⟩,fun i h=>by omega⟩
  | m+1=>by
    obtain⟨⟨R,hR⟩,hc⟩:=phAdd_ext (L:=L) (n:=n) (d:=d) (c:=c) m
    rw[foldl_succ]
    obtain⟨⟨R2,hR2⟩,h2⟩:=phOne_ext (n:=n) (d:=d) (c:=c) (L:=(List.range m).foldl (phOne n d c) L) (i:=m)
    refine⟨⟨R++R2,by rw[hR2,hR,List.append_assoc]⟩,fun i hi=>?_⟩
    by_cases h:i=m
    · subst h
      exact h2
    · rcases hc i (by omega) with h3 | h3
      · exact .inl h3
      · exact .inr (by rw[hR2];exact List.mem_append_left _ h3)
theorem phC_ext {n:Int}{d:List Int}:∀ {f:Nat} {L R:List (List Int)} {k:Nat},phC n d f L k=some R→(∀ j,j<k→j<L.length→ClAt n d L n.toNat (L.getD j []))→(∃ T,R=L++T)∧∀ c∈R,ClAt n d R n.toNat c
  | 0,_,_,_,h,_=>by cases h
  | f+1,L,R,k,h,hc=>by
    rw[phC] at h
    split at h
    · rename_i hk
      obtain⟨⟨T,hT⟩,h2⟩:=phAdd_ext (n:=n) (d:=d) (c:=L.getD k []) (L:=L) n.toNat
      have hT':phAdd n d (L.getD k []) L=L++T:=hT
      have hg:∀ j,j<L.length→(L++T).getD j []=L.getD j []:=fun j hj=>by simp[List.getD,List.getElem?_append_left hj]
      rw[hT'] at h
      rw[hT] at h2
      obtain⟨⟨T2,hT2⟩,h3⟩:=phC_ext h fun j hj hjl=>by
        by_cases e:j=k
        · subst e
          rw[hg j hk]
          exact h2
        · rw[hg j (by omega)]
          intro i hi
          rcases hc j (by omega) (by omega) i hi with h4 | h4
          · exact .inl h4
          · exact .inr (List.mem_append_left _ h4)
      exact⟨⟨T++T2,by rw[hT2,List.append_assoc]⟩,h3⟩
    · rename_i hk
      simp only[Option.some.injEq] at h
      subst h
      refine⟨⟨[],by simp⟩,fun c hc'=>?_⟩
      obtain⟨j,hj,rfl⟩:=List.mem_iff_getElem.1 hc'
      have:=hc j (by omega) hj
      simpa [List.getD,hj] using this
def dotL (m:Nat)(c w:List Int):Int:=dotN (c.getD · 0) (w.getD · 0) m
def ones (n:Int)(s:Int):List Int:=List.replicate n.toNat s
def mvec (n:Int)(d:List Int):List Int:=(phi n d).foldl (fun m c=>(List.range n.toNat).map (fun k=>m.getD k 0+c.getD k 0)) []
def chkP (n:Int)(d:List Int):Bool :=
  (phC n d 40 (units n) 0).isSome&&((phi n d).all fun c=>(c.length==n.toNat)&&decide (-20≤dotL n.toNat c (ones n 1))&&decide (dotL n.toNat c (ones n 1)≤20)) &&
  ((List.range n.toNat).all fun i=>decide (0≤(mvec n d).getD i 0)&&decide ((mvec n d).getD i 0≤200)&&(dotN ((mvec n d).getD · 0) (fun k=>atI n d k i) n.toNat==2)&&(atI n d i i==2)) &&
  d.all fun x=>decide (-3≤x)&&decide (x≤3)
def chkPs (n a b:Nat):Bool:=(((candL n).drop a).take b).all fun d=>chkP n d
theorem chkPs_1:chkPs 1 0 1000=true:=by decide +kernel
theorem chkPs_2:chkPs 2 0 1000=true:=by decide +kernel
theorem chkPs_3:chkPs 3 0 1000=true:=by decide +kernel
theorem chkPs_4a:chkPs 4 0 80=true:=by decide +kernel
theorem chkPs_4b:chkPs 4 80 80=true:=by decide +kernel
theorem chkPs_4c:chkPs 4 160 1000=true:=by decide +kernel
theorem mem_parts {α:Type}{x:α}{L:List α}(a:Nat)(h:x∈L):x∈(L.drop 0).take a∨x∈L.drop a:=by
  rw[← List.take_append_drop a L] at h
  rw[List.drop_zero]
  exact List.mem_append.1 h
theorem chkPs_all {m:Nat}{d:List Int}(h1:1≤m)(h4:m≤4)(hd:d∈candL m):chkP m d=true:=by
  have one:∀ n,chkPs n 0 1000=true→(candL n).length≤1000→d∈candL n→chkP n d=true:=fun n h hl hd=>by
    simp only[chkPs,List.all_eq_true] at h
    exact h d (by rw[List.drop_zero,List.take_of_length_le hl];exact hd)
  have len:∀ n,1≤n→n≤4→(candL n).length≤1000:=fun n a b=>four (P:=fun n=>(candL n).length≤1000) (by decide +kernel) (by decide +kernel) (by decide +kernel) (by decide +kernel) a b
  rcases(by omega:m=1∨m=2∨m=3∨m=4) with rfl | rfl | rfl | rfl
  · exact one 1 chkPs_1 (len 1 (by omega) (by omega)) hd
  · exact one 2 chkPs_2 (len 2 (by omega) (by omega)) hd
  · exact one 3 chkPs_3 (len 3 (by omega) (by omega)) hd
  · have ha:=chkPs_4a
    have hb:=chkPs_4b
    have hc:=chkPs_4c
    simp only[chkPs,List.all_eq_true] at ha hb hc
    rcases mem_parts 80 hd with h | h
    · exact ha d h
    · rcases mem_parts 80 h with h2 | h2
      · exact hb d (by simpa using h2)
      · rw[List.drop_drop] at h2
        exact hc d (by
          have hl:=len 4 (by omega) (by omega)
          rw[List.take_of_length_le (by rw[List.length_drop];omega)]
          simpa using h2)
structure PhOk (n:Int)(d:List Int):Prop where
  len:∀ c∈phi n d,c.length=n.toNat
  closed:∀ c∈phi n d,∀ i,i<n.toNat→c=unitL n.toNat i∨phStep n d c i∈phi n d
  up:∀ c∈phi n d, -20≤dotL n.toNat c (ones n 1)∧dotL n.toNat c (ones n 1)≤20
  unit:∀ i,i<n.toNat→unitL n.toNat i∈phi n d
  mv:∀ i,i<n.toNat→0≤(mvec n d).getD i 0∧(mvec n d).getD i 0≤200
  diag:∀ i:Nat,i<n.toNat→atI n d i i=2
  two:∀ i:Nat,i<n.toNat→dotN ((mvec n d).getD · 0) (fun k=>atI n d k i) n.toNat=2
  ent:∀ x∈d, -3≤x∧x≤3
  rk:n.toNat≤4
theorem phOk {n:Int}{d:List Int}(h:(tyS n d).isSome=true):PhOk n d:=by
  obtain⟨ks,hk⟩:=Option.isSome_iff_exists.1 h
  obtain⟨m,rfl,h1,h4,hd⟩:=tyS_cand hk
  have h0:=chkPs_all h1 h4 hd
  simp only[chkP,Bool.and_eq_true,List.all_eq_true,decide_eq_true_eq,beq_iff_eq,List.mem_range] at h0
  obtain⟨⟨⟨hz,ha⟩,hb⟩,hc⟩:=h0
  obtain⟨R,hR⟩:=Option.isSome_iff_exists.1 hz
  have hphi:phi m d=R:=by rw[phi,hR];rfl
  obtain⟨⟨T,hT⟩,hcl⟩:=phC_ext hR fun j hj=>by omega
  exact⟨fun c hc'=>(ha c hc').1.1,fun c hc' i hi=>by rw[hphi] at hc' ⊢;exact hcl c hc' i hi,fun c hc'=>⟨(ha c hc').1.2,(ha c hc').2⟩,fun i hi=>by
    rw[hphi,hT]
    exact List.mem_append_left _ (List.mem_map.2 ⟨i,by simpa using hi,rfl⟩),fun i hi=>⟨(hb i hi).1.1.1,(hb i hi).1.1.2⟩,fun i hi=>(hb i hi).2,fun i hi=>(hb i hi).1.2,hc,by omega⟩
end Go.Proofs.YtbmnnbglipkidaaGreatDoor
