/-
  Functionals that reflections permute: checked by the kernel for all Cartan matrices; no program is spoken of.
-/
import Derived.Test.YtbmnnbglipkidaaGreatDoorZ50
namespace Go.Proofs.YtbmnnbglipkidaaGreatDoor
set_option maxRecDepth 100000
set_option linter.unusedVariables false
set_option linter.unusedSimpArgs false
def dotN (c w:Nat→Int):Nat→Int
  | 0=>0
  | m+1=>dotN c w m+c m*w m
theorem CR {c c' w w':Nat→Int}:∀ {m:Nat},(∀ k,k<m→c k=c' k∧w k=w' k)→dotN c w m=dotN c' w' m
  | 0,_=>rfl
  | m+1,h=>by
    rw[dotN,dotN,CR fun k hk=>h k (by omega),(h m (by omega)).1,(h m (by omega)).2]
theorem NW (c w a:Nat→Int)(t:Int):∀ m:Nat,dotN c (fun k=>w k - t*a k) m=dotN c w m - t*dotN c a m
  | 0=>by simp[dotN]
  | m+1=>by
    rw[dotN,dotN,dotN,NW c w a t m,Int.mul_sub,Int.mul_add,Int.mul_left_comm (c m) t (a m)]
    omega
theorem NC (c w:Nat→Int)(i:Nat)(s:Int):∀ m:Nat,dotN (fun k=>if k=i then c k - s else c k) w m=dotN c w m - (if i<m then s*w i else 0)
  | 0=>by simp[dotN]
  | m+1=>by
    rw[dotN,dotN,NC c w i s m]
    by_cases h:m=i
    · subst h
      rw[if_pos rfl,if_neg (by omega),if_pos (by omega),Int.sub_mul]
      omega
    · rw[if_neg h]
      by_cases h2:i<m
      · rw[if_pos h2,if_pos (by omega)]
        omega
      · rw[if_neg h2,if_neg (by omega)]
        omega
theorem L8 (w:Nat→Int)(i:Nat):∀ m:Nat,dotN (fun k=>if k=i then 1 else 0) w m=if i<m then w i else 0
  | 0=>by simp[dotN]
  | m+1=>by
    rw[dotN,L8 w i m]
    by_cases h:m=i
    · subst h
      rw[if_neg (by omega),if_pos rfl,if_pos (by omega)]
      omega
    · rw[if_neg h]
      by_cases h2:i<m
      · rw[if_pos h2,if_pos (by omega)]
        omega
      · rw[if_neg h2,if_neg (by omega)]
        omega
theorem O7 {x a B:Int}(hx : -B≤x∧x≤B)(ha : -3≤a∧a≤3) : -(3*B)≤x*a∧x*a≤3*B:=by
  rcases(by omega:a = -3∨a = -2∨a = -1∨a=0∨a=1∨a=2∨a=3) with rfl | rfl | rfl | rfl | rfl | rfl | rfl <;> omega
theorem BE {o:List Int}{k:Nat}{v:Int}(h:k<o.length):(o.set k v).getD k 0=v:=by simp[List.getD,h]
theorem CC {g:Nat→Int→Int}{o:List Int}:∀ {m k:Nat},m≤o.length→k<o.length→((List.range m).foldl (fun(o:List Int) (i:Nat)=>o.set i (g i (o.getD i 0))) o).getD k 0=if k<m then g k (o.getD k 0) else o.getD k 0
  | 0,k,_,_=>by simp
  | m+1,k,hm,hk=>by
    have hl:((List.range m).foldl (fun(o:List Int) (i:Nat)=>o.set i (g i (o.getD i 0))) o).length=o.length:=Co (fun o i=>by simp) _ _
    rw[A6]
    have ih:=CC (g:=g) (o:=o) (m:=m) (k:=m) (by omega) (by omega)
    rw[if_neg (by omega)] at ih
    by_cases h:k=m
    · subst h
      rw[if_pos (by omega),ih]
      exact BE (by rw[hl];exact hk)
    · rw[Br (by omega),CC (by omega) hk]
      by_cases h2:k<m
      · rw[if_pos h2,if_pos (by omega)]
      · rw[if_neg h2,if_neg (by omega)]
theorem A0 {x y:List Int}(hl:x.length=y.length)(h:∀ k,k<x.length→x.getD k 0=y.getD k 0):x=y:=by
  refine List.ext_getElem hl fun k h1 h2=>?_
  have:=h k h1
  simpa [List.getD,h1,h2] using this
theorem X9 {n:Int}{d:List Int}{i:Int}{w:List Int}{k:Nat}(hk:k<w.length):(rfF n d i w).getD k 0=IntKind.i64.wrap (w.getD k 0 - IntKind.i64.wrap (w.getD i.toNat 0*atI n d k i)):=by
  have h:=CC (g:=fun k (x:Int)=>IntKind.i64.wrap (x - IntKind.i64.wrap (w.getD i.toNat 0*atI n d k i))) (o:=w) (m:=w.length) (k:=k) (Nat.le_refl _) hk
  rw[if_pos hk] at h
  exact h
theorem Nb {n:Int}{d:List Int}(h:∀ x∈d, -3≤x∧x≤3)(i j:Int) : -3≤atI n d i j∧atI n d i j≤3:=by
  unfold atI
  by_cases hk:(i*n+j).toNat<d.length
  · have e:d.getD (i*n+j).toNat 0=d[(i*n+j).toNat]:=by simp[List.getD,hk]
    rw[e]
    exact h _ (List.getElem_mem hk)
  · have e:d.getD (i*n+j).toNat 0=0:=by simp[List.getD,List.getElem?_eq_none (Nat.le_of_not_lt hk)]
    rw[e]
    decide
theorem SI {n:Int}{d:List Int}{i:Int}{w:List Int}(hd:∀ x∈d, -3≤x∧x≤3)(hi:i.toNat<w.length)(hw:∀ k,k<w.length → -1000≤w.getD k 0∧w.getD k 0≤1000){k:Nat}(hk:k<w.length):(rfF n d i w).getD k 0=w.getD k 0 - w.getD i.toNat 0*atI n d k i:=by
  have h1:=O7 (hw _ hi) (Nb (n:=n) hd k i)
  have h2:=hw k hk
  rw[X9 hk,Aj (x:=w.getD i.toNat 0*atI n d k i) (by omega) (by omega),Aj (by omega) (by omega)]
def phStep (n:Int)(d c:List Int)(i:Nat):List Int:=c.set i (c.getD i 0 - dotN (c.getD · 0) (fun k=>atI n d k i) n.toNat)
def unitL (m i:Nat):List Int:=(List.range m).map fun k=>if k=i then 1 else 0
def Kr (n:Int)(d c:List Int)(L:List (List Int))(i:Nat):List (List Int):=if c==unitL n.toNat i || L.contains (phStep n d c i) then L else L++[phStep n d c i]
def Z7 (n:Int)(d c:List Int)(L:List (List Int)):List (List Int):=(List.range n.toNat).foldl (Kr n d c) L
def dJ (n:Int)(d:List Int):Nat→List (List Int)→Nat→Option (List (List Int))
  | 0,_,_=>none
  | f+1,L,k=>if k<L.length then dJ n d f (Z7 n d (L.getD k []) L) (k+1) else some L
def LV (n:Int):List (List Int):=(List.range n.toNat).map (unitL n.toNat)
def Xh (n:Int)(d:List Int):List (List Int):=(dJ n d 40 (LV n) 0).getD []
def ct (n:Int)(d:List Int)(L:List (List Int))(m:Nat)(c:List Int):Prop:=∀ i,i<m→c=unitL n.toNat i∨phStep n d c i∈L
theorem Sh {n:Int}{d c:List Int}{L:List (List Int)}{i:Nat}:(∃ R,Kr n d c L i=L++R)∧(c=unitL n.toNat i∨phStep n d c i∈Kr n d c L i):=by
  unfold Kr
  split
  · rename_i h
    simp only[Bool.or_eq_true,beq_iff_eq,List.contains_iff_mem] at h
    exact⟨⟨[],by simp⟩,h⟩
  · exact⟨⟨_,rfl⟩,.inr (by simp)⟩
theorem LB {n:Int}{d c:List Int}{L:List (List Int)}:∀ m:Nat,(∃ R,(List.range m).foldl (Kr n d c) L=L++R)∧ct n d ((List.range m).foldl (Kr n d c) L) m c
  | 0=>⟨⟨[],by simp⟩,fun i h=>by omega⟩
  | m+1=>by
    obtain⟨⟨R,hR⟩,hc⟩:=LB (L:=L) (n:=n) (d:=d) (c:=c) m
    rw[A6]
    obtain⟨⟨R2,hR2⟩,h2⟩:=Sh (n:=n) (d:=d) (c:=c) (L:=(List.range m).foldl (Kr n d c) L) (i:=m)
    refine⟨⟨R++R2,by rw[hR2,hR,List.append_assoc]⟩,fun i hi=>?_⟩
    by_cases h:i=m
    · subst h
      exact h2
    · rcases hc i (by omega) with h3 | h3
      · exact .inl h3
      · exact .inr (by rw[hR2];exact List.mem_append_left _ h3)
theorem P5 {n:Int}{d:List Int}:∀ {f:Nat} {L R:List (List Int)} {k:Nat},dJ n d f L k=some R→(∀ j,j<k→j<L.length→ct n d L n.toNat (L.getD j []))→(∃ T,R=L++T)∧∀ c∈R,ct n d R n.toNat c
  | 0,_,_,_,h,_=>by cases h
  | f+1,L,R,k,h,hc=>by
    rw[dJ] at h
    split at h
    · rename_i hk
      obtain⟨⟨T,hT⟩,h2⟩:=LB (n:=n) (d:=d) (c:=L.getD k []) (L:=L) n.toNat
      have hT':Z7 n d (L.getD k []) L=L++T:=hT
      have hg:∀ j,j<L.length→(L++T).getD j []=L.getD j []:=fun j hj=>by simp[List.getD,List.getElem?_append_left hj]
      rw[hT'] at h
      rw[hT] at h2
      obtain⟨⟨T2,hT2⟩,h3⟩:=P5 h fun j hj hjl=>by
        by_cases e:j=k
        · subst e
          rw[hg j hk]
          exact h2
        · rw[hg j (by omega)]
          intro i hi
          rcases hc j (by omega) (by omega) i hi with h4 | h4
          · exact .inl h4
          · exact .inr (List.mem_append_left _ h4)
      exact⟨⟨T++T2,by rw[hT2,List.append_assoc]⟩,h3⟩
    · rename_i hk
      simp only[Option.some.injEq] at h
      subst h
      refine⟨⟨[],by simp⟩,fun c hc'=>?_⟩
      obtain⟨j,hj,rfl⟩:=List.mem_iff_getElem.1 hc'
      have:=hc j (by omega) hj
      simpa [List.getD,hj] using this
def KL (m:Nat)(c w:List Int):Int:=dotN (c.getD · 0) (w.getD · 0) m
def UF (n:Int)(s:Int):List Int:=List.replicate n.toNat s
def mvec (n:Int)(d:List Int):List Int:=(Xh n d).foldl (fun m c=>(List.range n.toNat).map (fun k=>m.getD k 0+c.getD k 0)) []
def XQ (n:Int)(d:List Int):Bool :=
  (dJ n d 40 (LV n) 0).isSome&&((Xh n d).all fun c=>(c.length==n.toNat)&&decide (-20≤KL n.toNat c (UF n 1))&&decide (KL n.toNat c (UF n 1)≤20)) &&
  ((List.range n.toNat).all fun i=>decide (0≤(mvec n d).getD i 0)&&decide ((mvec n d).getD i 0≤200)&&(dotN ((mvec n d).getD · 0) (fun k=>atI n d k i) n.toNat==2)&&(atI n d i i==2)) &&
  d.all fun x=>decide (-3≤x)&&decide (x≤3)
def Gb (n a b:Nat):Bool:=(((Bt n).drop a).take b).all fun d=>XQ n d
theorem Xl:Gb 1 0 1000=true:=by decide +kernel
theorem ZP:Gb 2 0 1000=true:=by decide +kernel
theorem Y6:Gb 3 0 1000=true:=by decide +kernel
theorem VK:Gb 4 0 80=true:=by decide +kernel
theorem T7:Gb 4 80 80=true:=by decide +kernel
theorem Vu:Gb 4 160 1000=true:=by decide +kernel
theorem mem_parts {α:Type}{x:α}{L:List α}(a:Nat)(h:x∈L):x∈(L.drop 0).take a∨x∈L.drop a:=by
  rw[← List.take_append_drop a L] at h
  rw[List.drop_zero]
  exact List.mem_append.1 h
theorem RZ {m:Nat}{d:List Int}(h1:1≤m)(h4:m≤4)(hd:d∈Bt m):XQ m d=true:=by
  have one:∀ n,Gb n 0 1000=true→(Bt n).length≤1000→d∈Bt n→XQ n d=true:=fun n h hl hd=>by
    simp only[Gb,List.all_eq_true] at h
    exact h d (by rw[List.drop_zero,List.take_of_length_le hl];exact hd)
  have len:∀ n,1≤n→n≤4→(Bt n).length≤1000:=fun n a b=>four (P:=fun n=>(Bt n).length≤1000) (by decide +kernel) (by decide +kernel) (by decide +kernel) (by decide +kernel) a b
  rcases(by omega:m=1∨m=2∨m=3∨m=4) with rfl | rfl | rfl | rfl
  · exact one 1 Xl (len 1 (by omega) (by omega)) hd
  · exact one 2 ZP (len 2 (by omega) (by omega)) hd
  · exact one 3 Y6 (len 3 (by omega) (by omega)) hd
  · have ha:=VK
    have hb:=T7
    have hc:=Vu
    simp only[Gb,List.all_eq_true] at ha hb hc
    rcases mem_parts 80 hd with h | h
    · exact ha d h
    · rcases mem_parts 80 h with h2 | h2
      · exact hb d (by simpa using h2)
      · rw[List.drop_drop] at h2
        exact hc d (by
          have hl:=len 4 (by omega) (by omega)
          rw[List.take_of_length_le (by rw[List.length_drop];omega)]
          simpa using h2)
structure PhOk (n:Int)(d:List Int):Prop where
  len:∀ c∈Xh n d,c.length=n.toNat
  closed:∀ c∈Xh n d,∀ i,i<n.toNat→c=unitL n.toNat i∨phStep n d c i∈Xh n d
  up:∀ c∈Xh n d, -20≤KL n.toNat c (UF n 1)∧KL n.toNat c (UF n 1)≤20
  unit:∀ i,i<n.toNat→unitL n.toNat i∈Xh n d
  mv:∀ i,i<n.toNat→0≤(mvec n d).getD i 0∧(mvec n d).getD i 0≤200
  diag:∀ i:Nat,i<n.toNat→atI n d i i=2
  two:∀ i:Nat,i<n.toNat→dotN ((mvec n d).getD · 0) (fun k=>atI n d k i) n.toNat=2
  ent:∀ x∈d, -3≤x∧x≤3
  rk:n.toNat≤4
theorem gE {n:Int}{d:List Int}(h:(Ax n d).isSome=true):PhOk n d:=by
  obtain⟨ks,hk⟩:=Option.isSome_iff_exists.1 h
  obtain⟨m,rfl,h1,h4,hd⟩:=D3 hk
  have h0:=RZ h1 h4 hd
  simp only[XQ,Bool.and_eq_true,List.all_eq_true,decide_eq_true_eq,beq_iff_eq,List.mem_range] at h0
  obtain⟨⟨⟨hz,ha⟩,hb⟩,hc⟩:=h0
  obtain⟨R,hR⟩:=Option.isSome_iff_exists.1 hz
  have hphi:Xh m d=R:=by rw[Xh,hR];rfl
  obtain⟨⟨T,hT⟩,hcl⟩:=P5 hR fun j hj=>by omega
  exact⟨fun c hc'=>(ha c hc').1.1,fun c hc' i hi=>by rw[hphi] at hc' ⊢;exact hcl c hc' i hi,fun c hc'=>⟨(ha c hc').1.2,(ha c hc').2⟩,fun i hi=>by
    rw[hphi,hT]
    exact List.mem_append_left _ (List.mem_map.2 ⟨i,by simpa using hi,rfl⟩),fun i hi=>⟨(hb i hi).1.1.1,(hb i hi).1.1.2⟩,fun i hi=>(hb i hi).2,fun i hi=>(hb i hi).1.2,hc,by omega⟩
def Bd (n:Int)(d w:List Int):Prop:=w.length=n.toNat∧∀ c∈Xh n d, -20≤KL n.toNat c w∧KL n.toNat c w≤20
theorem N0 {m i:Nat}{w:List Int}(hi:i<m):KL m (unitL m i) w=w.getD i 0:=by
  have h:=L8 (w.getD · 0) i m
  rw[if_pos hi] at h
  rw[← h]
  exact CR fun k hk=>⟨by simp[unitL,List.getD,hk],rfl⟩
theorem Bd.ent {n:Int}{d w:List Int}(hp:PhOk n d)(h:Bd n d w){k:Nat}(hk:k<w.length) : -20≤w.getD k 0∧w.getD k 0≤20:=by
  have hk':k<n.toNat:=by rw[← h.1];exact hk
  have:=h.2 _ (hp.unit k hk')
  rwa [N0 hk'] at this
theorem Ua {n:Int}{d c w w':List Int}{i:Int}(hc:c.length=n.toNat)(hi:i.toNat<n.toNat)(hi0:0≤i)(hg:∀ k,k<n.toNat→w'.getD k 0=w.getD k 0 - w.getD i.toNat 0*atI n d k i):KL n.toNat c w'=KL n.toNat (phStep n d c i.toNat) w:=by
  have e1:KL n.toNat c w'=dotN (c.getD · 0) (fun k=>w.getD k 0 - w.getD i.toNat 0*atI n d k i) n.toNat:=CR fun k hk=>⟨rfl,hg k hk⟩
  have e2:KL n.toNat (phStep n d c i.toNat) w=dotN (fun k=>if k=i.toNat then c.getD k 0 - dotN (c.getD · 0) (fun k=>atI n d k i) n.toNat else c.getD k 0) (w.getD · 0) n.toNat:=CR fun k hk=>⟨by
    have ei:((i.toNat:Nat):Int)=i:=by omega
    unfold phStep
    rw[ei]
    by_cases h:k=i.toNat
    · subst h
      rw[if_pos rfl]
      simp[List.getD,hc,hk]
    · rw[if_neg h,Br (by omega)],rfl⟩
  rw[e1,e2,NW,NC,if_pos hi,Int.mul_comm]
theorem Bd.refl {n:Int}{d w:List Int}(hp:PhOk n d)(h:Bd n d w){i:Int}(hi:0≤i∧i.toNat<w.length):Bd n d (rfF n d i w):=by
  refine⟨by rw[YP];exact h.1,fun c hc=>?_⟩
  have hi':i.toNat<n.toNat:=by rw[← h.1];exact hi.2
  have hex:∀ k,k<n.toNat→(rfF n d i w).getD k 0=w.getD k 0 - w.getD i.toNat 0*atI n d k i:=fun k hk=>SI hp.ent hi.2 (fun k hk=>by have:=h.ent hp hk;omega) (by rw[h.1];exact hk)
  rcases hp.closed c hc _ hi' with hu | hu
  · subst hu
    have hdg:=hp.diag i.toNat hi'
    rw[show ((i.toNat:Nat):Int)=i by omega] at hdg
    have he:=h.ent hp hi.2
    have hx:=hex _ hi'
    rw[show ((i.toNat:Nat):Int)=i by omega,hdg] at hx
    rw[N0 hi',hx]
    omega
  · rw[Ua (w:=w) (hp.len c hc) hi' hi.1 hex]
    exact h.2 _ hu
theorem N4 (c w:Nat→Int):∀ m:Nat,dotN c (fun k => -(w k)) m = -(dotN c w m)
  | 0=>rfl
  | m+1=>by
    rw[dotN,dotN,N4 c w m,Int.mul_neg]
    omega
theorem Gj {n:Int}{w:List Int}(h:Dk n w=true):∀ k,k<w.length → -1000≤w.getD k 0∧w.getD k 0≤1000:=by
  intro k hk
  simp only[Dk,Bool.and_eq_true,Bool.not_eq_true'] at h
  have h1:=List.any_eq_false.1 h.2 (w.getD k 0) (by
    have e:w.getD k 0=w[k]:=by simp[List.getD,hk]
    rw[e]
    exact List.getElem_mem hk)
  have h2:BZ (w.getD k 0) (-1000) 1000=true:=by simpa using h1
  exact AX h2
def Af (x:List Int)(k:Int)(y:List Int):List Int:=(List.range y.length).foldl (fun(o:List Int) (i:Nat)=>o.set i (IntKind.i64.wrap (o.getD i 0+IntKind.i64.wrap (k*y.getD i 0)))) x
def Av (y:List Int):List Int:=y.map fun x=>0 - x
theorem Of {y:List Int}(h:∀ k,k<y.length → -1000≤y.getD k 0∧y.getD k 0≤1000):Af (List.replicate y.length 0) (-1) y=Av y:=by
  have hl:(Af (List.replicate y.length 0) (-1) y).length=y.length:=by
    unfold Af
    rw[Co (fun o i=>by simp),List.length_replicate]
  refine A0 (by rw[hl,Av,List.length_map]) fun k hk=>?_
  rw[hl] at hk
  have hg:=CC (g:=fun i (x:Int)=>IntKind.i64.wrap (x+IntKind.i64.wrap (-1*y.getD i 0))) (o:=List.replicate y.length 0) (m:=y.length) (k:=k) (by simp) (by simpa using hk)
  rw[if_pos hk] at hg
  have h0:(List.replicate y.length (0:Int)).getD k 0=0:=by simp[List.getD,hk]
  have hb:=h k hk
  rw[h0,Aj (x := -1*y.getD k 0) (by omega) (by omega),Aj (by omega) (by omega)] at hg
  refine hg.trans ?_
  simp[Av,List.getD,hk]
theorem Xz {x:List Int}:(List.range x.length).foldl (fun(o:List Int) (i:Nat)=>o.set i (0 - x.getD i 0)) (List.replicate x.length 0)=Av x:=by
  have hl:((List.range x.length).foldl (fun(o:List Int) (i:Nat)=>o.set i (0 - x.getD i 0)) (List.replicate x.length 0)).length=x.length:=by rw[Co (fun o i=>by simp),List.length_replicate]
  refine A0 (by rw[hl,Av,List.length_map]) fun k hk=>?_
  rw[hl] at hk
  have hg:=CC (g:=fun i (_:Int)=>0 - x.getD i 0) (o:=List.replicate x.length 0) (m:=x.length) (k:=k) (by simp) (by simpa using hk)
  rw[if_pos hk] at hg
  refine hg.trans ?_
  simp[Av,List.getD,hk]
theorem AC (x:List Int):(Av x).length=x.length:=by simp[Av]
theorem AQ (x:List Int)(k:Int)(y:List Int):(Af x k y).length=x.length:=Co (fun o i=>by simp) _ _
def Ea (a b:Int):Int:=if a<b then -1 else if b<a then 1 else 0
def cmpL:List Int→List Int→Int
  | [],ys=>if 0<ys.length then -1 else 0
  | _::_,[]=>1
  | x::xs,y::ys=>if Ea x y≠0 then Ea x y else cmpL xs ys
def Hu:List Int→List Int→Bool
  | [],_=>false
  | _::_,[]=>true
  | x::xs,y::ys=>if x≠y then decide (y<x) else Hu xs ys
theorem bE {x y:List Int}{k:Nat}(h1:k<x.length)(h2:k<y.length)(h:x.getD k 0≠y.getD k 0):Hu (x.drop k) (y.drop k)=decide (y.getD k 0<x.getD k 0):=by
  rw[B2 h1,B2 h2,Hu,if_pos h]
theorem cn {x y:List Int}{k:Nat}(h1:k<x.length)(h2:k<y.length)(h:x.getD k 0=y.getD k 0):Hu (x.drop k) (y.drop k)=Hu (x.drop (k+1)) (y.drop (k+1)):=by
  rw[B2 h1,B2 h2,Hu,if_neg (by simpa using h)]
theorem Yx {x y:List Int}{k:Nat}(h:x.length≤k∨y.length≤k)(h1:k≤x.length)(h2:k≤y.length):Hu (x.drop k) (y.drop k)=decide ((y.length:Int)<x.length):=by
  by_cases hx:x.length≤k
  · rw[List.drop_eq_nil_of_le hx,Hu,decide_eq_false (by omega)]
  · rw[B2 (by omega:k<x.length),List.drop_eq_nil_of_le (by omega:y.length≤k),Hu,decide_eq_true (by omega)]
theorem cf {x y:List Int}{k:Nat}(h1:k<x.length)(h2:k<y.length)(h:Ea (x.getD k 0) (y.getD k 0)≠0):cmpL (x.drop k) (y.drop k)=Ea (x.getD k 0) (y.getD k 0):=by
  rw[B2 h1,B2 h2,cmpL,if_pos h]
theorem cmp_eq {x y:List Int}{k:Nat}(h1:k<x.length)(h2:k<y.length)(h:Ea (x.getD k 0) (y.getD k 0)=0):cmpL (x.drop k) (y.drop k)=cmpL (x.drop (k+1)) (y.drop (k+1)):=by
  rw[B2 h1,B2 h2,cmpL,if_neg (by simpa using h)]
theorem UT {x y:List Int}{k:Nat}(h1:k<x.length)(h2:y.length≤k):cmpL (x.drop k) (y.drop k)=1:=by
  rw[B2 h1,List.drop_eq_nil_of_le h2,cmpL]
theorem RL {x y:List Int}{k:Nat}(h1:x.length≤k)(h2:k≤x.length)(h3:k≤y.length∨True):cmpL (x.drop k) (y.drop k)=if (x.length:Int)<y.length then -1 else 0:=by
  rw[List.drop_eq_nil_of_le h1,cmpL,List.length_drop]
  by_cases h:(x.length:Int)<y.length
  · rw[if_pos (by omega),if_pos h]
  · rw[if_neg (by omega),if_neg h]
end Go.Proofs.YtbmnnbglipkidaaGreatDoor
