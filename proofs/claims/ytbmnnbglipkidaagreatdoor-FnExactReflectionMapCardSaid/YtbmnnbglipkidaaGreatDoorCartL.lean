/-
  The law that both texts tell the same parts of a Cartan matrix; what is told is one of the matrices that are listed. No program is spoken of.
-/
import Derived.Test.YtbmnnbglipkidaaGreatDoorZ33
namespace Go.Proofs.YtbmnnbglipkidaaGreatDoor
set_option maxRecDepth 100000
set_option linter.unusedVariables false
set_option linter.unusedSimpArgs false
theorem EZ:∀ {m:Nat} {R p:List Int},p.length=m→p.Nodup→(∀ x∈p,x∈R)→p∈DK m R
  | 0,R,p,hl,_,_=>by
    have:p = []:=List.eq_nil_of_length_eq_zero hl
    simp[DK,this]
  | m+1,R,[],hl,_,_=>by simp at hl
  | m+1,R,x::p,hl,hn,hs=>by
    simp only[DK,List.mem_flatMap,List.mem_map]
    refine⟨x,hs x (by simp),p,EZ (by simpa using hl) (List.nodup_cons.1 hn).2 fun y hy=>?_,rfl⟩
    refine List.mem_filter.2 ⟨hs y (by simp[hy]),?_⟩
    have:y≠x:=fun e=>(List.nodup_cons.1 hn).1 (e ▸ hy)
    simpa using this
theorem G7 {α:Type}(f:α→Bool):∀ (l:List α) (b:Bool),l.foldl (fun b j=>b&&f j) b=(b&&l.all f)
  | [],b=>by simp
  | x::l,b=>by simp[G7 f l,Bool.and_assoc]
theorem Ni:∀ {p:List Int} {x:Int},x∈p→idx x p<p.length∧p.getD (idx x p) 0=x
  | [],_,h=>by simp at h
  | y::t,x,h=>by
    unfold idx
    by_cases e:y=x
    · simp[e]
    · have hx:x∈t:=by
        rcases List.mem_cons.1 h with h | h
        · exact absurd h.symm e
        · exact h
      obtain⟨h1,h2⟩:=Ni hx
      rw[if_neg e]
      refine⟨by simp;omega,?_⟩
      simpa using h2
def Chose (n:Int)(c:List Int)(m:Int)(D p:List Int):Prop:=∀ x y:Nat,x<p.length→y<p.length→atI n c (p.getD x 0) (p.getD y 0)=atI m D x y
theorem Gg {p q:List Int}{x:Nat}(h:x<p.length):(p++q).getD x 0=p.getD x 0:=by
  simp only[List.getD,List.getElem?_append_left h]
theorem D4 {p:List Int}{z:Int}:(p++[z]).getD p.length 0=z:=by simp[List.getD]
theorem Chose.snoc {n m:Int}{c D p:List Int}{z:Int}(h:Chose n c m D p)(h1:∀ j:Nat,j<p.length→atI n c z (p.getD j 0)=atI m D p.length j∧atI n c (p.getD j 0) z=atI m D j p.length)(h2:atI n c z z=atI m D p.length p.length):Chose n c m D (p++[z]):=by
  intro x y hx hy
  simp only[List.length_append,List.length_singleton] at hx hy
  by_cases ex:x=p.length
  · subst ex
    rw[D4]
    by_cases ey:y=p.length
    · subst ey
      rw[D4]
      exact h2
    · rw[Gg (by omega)]
      exact(h1 y (by omega)).1
  · rw[Gg (by omega)]
    by_cases ey:y=p.length
    · subst ey
      rw[D4]
      exact(h1 x (by omega)).2
    · rw[Gg (by omega)]
      exact h x y (by omega) (by omega)
theorem Ho {p:List Int}{z:Int}(h:p.Nodup)(hz:z ∉ p):(p++[z]).Nodup:=by
  rw[List.nodup_append]
  refine⟨h,by simp,fun a ha b hb=>?_⟩
  simp at hb
  subst hb
  exact fun e=>hz (e ▸ ha)
theorem Hn (n:Int)(c D:List Int):∀ (f:Nat) (rows:List Int),BK n c D f rows=true→rows.Nodup→(∀ x∈rows,x∈NF n.toNat)→Chose n c n D rows →
    ∃ p:List Int,(p.length:Int)=n∧p.Nodup∧(∀ x∈p,x∈NF n.toNat)∧Chose n c n D p
  | 0,_,h,_,_,_=>by simp[BK] at h
  | f+1,rows,h,hn,hs,hc=>by
    unfold BK at h
    by_cases e:(rows.length:Int)=n
    · exact⟨rows,e,hn,hs,hc⟩
    · rw[if_neg e,List.any_eq_true] at h
      obtain⟨i,hi,h⟩:=h
      simp only[Bool.and_eq_true,UJ,G7,Bool.true_and,List.all_eq_true,List.mem_range,beq_iff_eq] at h
      obtain⟨⟨h1,h2⟩,h3,h4⟩:=h
      have hz:(i:Int) ∉ rows:=by simpa using h1
      refine Hn n c D f _ h4 (Ho hn hz) (fun x hx=>?_) (hc.snoc (fun j hj=>⟨(h3 j hj).1,(h3 j hj).2⟩) h2)
      rcases List.mem_append.1 hx with hx | hx
      · exact hs x hx
      · simp at hx
        subst hx
        simp only[NF,List.mem_map]
        exact⟨i,hi,rfl⟩
theorem Kl (n:Int)(c R:List Int)(m:Int)(D:List Int):∀ (f:Nat) (used:List Int),CH n c R m D f used=true→used.Nodup→(∀ x∈used,x∈R)→Chose n c m D used →
    ∃ p:List Int,p.length=R.length∧p.Nodup∧(∀ x∈p,x∈R)∧Chose n c m D p
  | 0,_,h,_,_,_=>by simp[CH] at h
  | f+1,used,h,hn,hs,hc=>by
    unfold CH at h
    by_cases e:used.length=R.length
    · exact⟨used,e,hn,hs,hc⟩
    · rw[if_neg e,List.any_eq_true] at h
      obtain⟨i,hi,h⟩:=h
      simp only[Bool.and_eq_true,Up,G7,Bool.true_and,List.all_eq_true,List.mem_range,beq_iff_eq] at h
      obtain⟨h1,h3,h4⟩:=h
      have hi':i<R.length:=by simpa using hi
      have hz:R.getD i 0 ∉ used:=by simpa using h1
      refine Kl n c R m D f _ h4 (Ho hn hz) (fun x hx=>?_) (hc.snoc (fun j hj=>?_) ?_)
      · rcases List.mem_append.1 hx with hx | hx
        · exact hs x hx
        · simp at hx
          subst hx
          simp[hi']
      · have:=h3 j (by omega)
        rw[D4,Gg hj] at this
        exact⟨this.1,this.2⟩
      · have:=h3 used.length (by omega)
        rw[D4] at this
        exact this.1
theorem Ma (n:Int)(c:List Int)(m:Int)(D:List Int):Chose n c m D []:=fun x y hx _=>by simp at hx
theorem Uz {n:Nat}{d:List Int}{bl:List (List Int × List Int)}(hn:0<n)(hl:d.length=n*n)(h:∀ a b:Nat,a<n→b<n→atI n d a b=Tc bl a b):d=cZ n bl:=by
  refine List.ext_getElem (by simp[cZ,hl]) fun i h1 h2=>?_
  have hi:i<n*n:=by omega
  have ha:i / n<n:=Nat.div_lt_of_lt_mul hi
  have hb:i%n<n:=Nat.mod_lt _ hn
  have:=h (i / n) (i%n) ha hb
  have e:(((i / n:Nat):Int)*(n:Int)+((i%n:Nat):Int)).toNat=i:=by
    have h3:=Nat.div_add_mod i n
    rw[Nat.mul_comm] at h3
    omega
  simp only[atI,e] at this
  simp only[cZ,List.getElem_map,List.getElem_range]
  rw[← this]
  simp[List.getD,h1]
inductive CBlk (n:Int)(c:List Int):List (List Int)→List (List Int × List Int)→Prop
  | nil:CBlk n c [] []
  | cons {R p D:List Int} {Rs:List (List Int)} {bl:List (List Int × List Int)}:p.length=R.length→p.Nodup→(∀ x∈p,x∈R)→(∀ x∈R,x∈p)→Chose n c p.length D p→CBlk n c Rs bl→CBlk n c (R::Rs) ((p,D)::bl)
def T5:List (List Int)→Bool
  | []=>true
  | R::Rs=>Rs.all (fun S=>R.all fun x => !(S.contains x))&&T5 Rs
theorem CBlk.entry {n:Int}{c:List Int}:∀ {Rs:List (List Int)} {bl:List (List Int × List Int)},CBlk n c Rs bl→T5 Rs=true→∀ a b:Int,(∃ R∈Rs,a∈R)→((∀ R∈Rs,¬ (a∈R∧b∈R))→atI n c a b=0)→atI n c a b=Tc bl a b
  | _,_,.nil,_,a,b,hc,_=>by simp at hc
  | _,_,.cons (R:=R) (p:=p) (D:=D) (Rs:=Rs) (bl:=bl) hl hn hs hs' hch hb,hd,a,b,hc,hz=>by
    simp only[T5,Bool.and_eq_true,List.all_eq_true] at hd
    unfold Tc
    by_cases ha:a∈R
    · have ha':=hs' a ha
      rw[if_pos (by simpa using ha')]
      by_cases hbR:b∈R
      · have hb':=hs' b hbR
        rw[if_pos (by simpa using hb')]
        obtain⟨i1,i2⟩:=Ni ha'
        obtain⟨j1,j2⟩:=Ni hb'
        have:=hch _ _ i1 j1
        rwa [i2,j2] at this
      · rw[if_neg (by simpa using fun h=>hbR (hs b h))]
        refine hz fun S hS ⟨h1,h2⟩=>?_
        rcases List.mem_cons.1 hS with e | hS
        · exact hbR (e ▸ h2)
        · have:=hd.1 S hS a ha
          simp[h1] at this
    · rw[if_neg (by simpa using fun h=>ha (hs a h))]
      refine CBlk.entry hb hd.2 a b ?_ fun h=>hz fun S hS h'=>?_
      · obtain⟨S,hS,h⟩:=hc
        rcases List.mem_cons.1 hS with e | hS
        · exact absurd (e ▸ h) ha
        · exact⟨S,hS,h⟩
      · rcases List.mem_cons.1 hS with e | hS
        · exact ha (e ▸ h'.1)
        · exact h S hS h'
def cg (n:Nat):Bool:=(typesF 5 n 0).all fun ks=>(DK n (NF n)).all fun p=>fW n (cZ n [(p,(C3 ks).2)])
theorem Fu {n k:Nat}(h:k<n):(k:Int)∈NF n:=by
  simp only[NF,List.mem_map,List.mem_range]
  exact⟨k,h,rfl⟩
theorem Qx (n:Nat):(NF n).length=n:=by simp[NF]
theorem Nl:∀ {p R:List Int},p.Nodup→(∀ x∈p,x∈R)→R.length≤p.length→∀ x∈R,x∈p
  | [],R,_,_,hl,x,hx=>by
    have:R = []:=List.eq_nil_of_length_eq_zero (by simpa using hl)
    simp[this] at hx
  | y::p,R,hn,hs,hl,x,hx=>by
    have hy:=hs y (by simp)
    by_cases e:x=y
    · simp[e]
    · refine List.mem_cons_of_mem _ (Nl (R:=R.erase y) (List.nodup_cons.1 hn).2 (fun z hz=>?_) ?_ x ?_)
      · have hzy:z≠y:=fun e=>(List.nodup_cons.1 hn).1 (e ▸ hz)
        exact(List.mem_erase_of_ne hzy).2 (hs z (by simp[hz]))
      · rw[List.length_erase_of_mem hy]
        simp only[List.length_cons] at hl
        omega
      · exact(List.mem_erase_of_ne e).2 hx
theorem M0 {n:Int}{d:List Int}(h:Rv n d=true):∃ m:Nat,n=m∧1≤m∧m≤4∧d.length=m*m:=by
  simp only[Rv,Bool.and_eq_true,decide_eq_true_eq] at h
  obtain⟨h1,h2⟩:=h
  have h3:1≤n∧n≤4:=by simpa [BZ] using h1
  refine⟨n.toNat,by omega,by omega,by omega,?_⟩
  have e:(n.toNat:Int)=n:=by omega
  have:((n.toNat*n.toNat:Nat):Int)=n*n:=by rw[Int.natCast_mul,e]
  omega
theorem four {P:Nat→Prop}(h1:P 1)(h2:P 2)(h3:P 3)(h4:P 4){m:Nat}(a:1≤m)(b:m≤4):P m:=by
  rcases(by omega:m=1∨m=2∨m=3∨m=4) with rfl | rfl | rfl | rfl <;> assumption
theorem U9 {m:Nat}:1≤m→m≤4→cg m=true:=four (P:=fun m=>cg m=true) (by decide +kernel) (by decide +kernel) (by decide +kernel) (by decide +kernel)
theorem UC {n:Int}{d:List Int}{ks:List Nat}(h:S7 n d=some ks):∃ m:Nat,n=m∧1≤m∧m≤4∧d∈Bt m:=by
  unfold S7 at h
  split at h
  · rename_i hok
    obtain⟨m,rfl,h1,h4,hl⟩:=M0 hok
    simp only[Int.toNat_natCast] at h
    have hks:=List.mem_of_find?_eq_some h
    have hre:=List.find?_some h
    obtain⟨p,hp,hn,hs,hc⟩:=Hn _ _ _ _ _ hre (by simp) (by simp) (Ma _ _ _ _)
    simp only[Int.toNat_natCast] at hs
    have hpl:p.length=m:=by omega
    have hmem:p∈DK m (NF m):=EZ hpl hn hs
    have hall:∀ x∈NF m,x∈p:=Nl hn hs (by rw[Qx];omega)
    have hbl:CBlk m d [NF m] [(p,(C3 ks).2)] := .cons (by rw[Qx];exact hpl) hn hs hall (by rw[hpl];exact hc) .nil
    have hd:d=cZ m [(p,(C3 ks).2)]:=Uz (by omega) hl fun a b ha hb=>hbl.entry (by simp[T5]) _ _ ⟨_,by simp,Fu ha⟩ fun hz=>absurd ⟨Fu ha,Fu hb⟩ (hz _ (by simp))
    refine⟨m,rfl,h1,h4,?_⟩
    have hA:=U9 h1 h4
    simp only[cg,List.all_eq_true] at hA
    have:=hA ks hks p hmem
    rw[hd]
    exact Qo this
  · simp at h
def sg (x:Int):Int:=if x=0 then 0 else 1
def pat (d:List Int):List Int:=d.map sg
theorem RC (n:Int)(d:List Int)(i j:Int):atI n (pat d) i j=sg (atI n d i j):=by
  simp only[atI,pat,List.getD,List.getElem?_map]
  cases d[(i*n+j).toNat]? <;> simp[sg]
theorem fe (x:Int):(sg x != 0)=(x != 0):=by
  unfold sg
  by_cases h:x=0 <;> simp[h]
theorem XS {x:Int}(h:sg x=0):x=0:=by
  unfold sg at h
  split at h <;> simp_all
theorem Na (n:Int)(d:List Int)(k:Nat)(o:List Int):DA n (pat d) k o=DA n d k o:=by simp only[DA,RC,fe]
theorem L3 (n:Int)(d:List Int):∀ (f:Nat) (o:List Int) (k:Nat),Fy n (pat d) f o k=Fy n d f o k
  | 0,_,_=>rfl
  | f+1,o,k=>by simp only[Fy,Na,L3 n d f]
theorem RQ (n:Int)(d:List Int)(i:Int):partF n (pat d) i=partF n d i:=L3 _ _ _ _ _
def Dq (n:Int)(d:List Int)(Rs:List (List Int))(i:Nat):List (List Int):=if Rs.flatten.contains (i:Int) then Rs else Rs++[partF n d i]
def C9 (n:Int)(d:List Int)(m:Nat):List (List Int):=(List.range m).foldl (Dq n d) []
theorem Pi (n:Int)(d:List Int)(m:Nat):C9 n (pat d) m=C9 n d m:=by
  have e:Dq n (pat d)=Dq n d:=by
    funext Rs i
    simp only[Dq,RQ]
  rw[C9,e]
  rfl
theorem CBlk.snoc {n:Int}{c:List Int}{R p D:List Int}:∀ {Rs:List (List Int)} {bl:List (List Int × List Int)},CBlk n c Rs bl→p.length=R.length→p.Nodup→(∀ x∈p,x∈R)→(∀ x∈R,x∈p)→Chose n c p.length D p→CBlk n c (Rs++[R]) (bl++[(p,D)])
  | _,_,.nil,h1,h2,h3,h4,h5 => .cons h1 h2 h3 h4 h5 .nil
  | _,_,.cons a1 a2 a3 a4 a5 hb,h1,h2,h3,h4,h5 => .cons a1 a2 a3 a4 a5 (hb.snoc h1 h2 h3 h4 h5)
theorem GA {R p:List Int}{k:Nat}(hp:p∈DK R.length R)(hk:k<12)(hr:rk k=R.length):∀ {Rs:List (List Int)} {bl:List (List Int × List Int)},bl∈B1 Rs→bl++[(p,oneD k)]∈B1 (Rs++[R])
  | [],bl,h=>by
    simp only[B1,List.mem_singleton] at h
    subst h
    simp only[List.nil_append,B1,List.mem_flatMap,List.mem_filter,List.mem_range,List.mem_map]
    exact⟨p,hp,k,⟨hk,by simpa using hr⟩,[],by simp,rfl⟩
  | S::Rs,bl,h=>by
    simp only[B1,List.mem_flatMap,List.mem_map] at h
    obtain⟨q,hq,l,hl,t,ht,rfl⟩:=h
    simp only[List.cons_append,B1,List.mem_flatMap,List.mem_map]
    exact⟨q,hq,l,hl,_,GA hp hk hr ht,rfl⟩
theorem PX {n:Int}{d rows:List Int}{k:Nat}:∀ {m:Nat},C5 n d rows m=some k→k<m∧rk k=rows.length∧CH n d rows (rk k) (oneD k) 5 []=true:=by
  intro m
  unfold C5
  induction m with
  | zero=>simp
  | succ m ih =>
    intro h
    rw[List.range_succ,List.foldl_append] at h
    simp only[List.foldl_cons,List.foldl_nil] at h
    split at h
    · rename_i hc
      simp only[Bool.and_eq_true,beq_iff_eq] at hc
      simp only[Option.some.injEq] at h
      subst h
      exact⟨by omega,hc.1,hc.2⟩
    · obtain⟨h1,h2⟩:=ih h
      exact⟨by omega,h2⟩
theorem RP (n:Int)(d:List Int):∀ (m:Nat) (out:List Nat) (done:List Int),BW n d m=some (out,done)→∃ bl,CBlk n d (C9 n d m) bl∧bl∈B1 (C9 n d m)∧done=(C9 n d m).flatten:=by
  intro m
  induction m with
  | zero =>
    intro out done h
    simp only[BW,List.range_zero,List.foldl_nil,Option.some.injEq,Prod.mk.injEq] at h
    obtain⟨rfl,rfl⟩:=h
    exact⟨[],.nil,by simp[C9,B1],by simp[C9]⟩
  | succ m ih =>
    intro out done h
    rw[BW,List.range_succ,List.foldl_append] at h
    simp only[List.foldl_cons,List.foldl_nil] at h
    change Cx n d (BW n d m) m=_ at h
    have hcs:C9 n d (m+1)=Dq n d (C9 n d m) m:=by
      simp only[C9,List.range_succ,List.foldl_append,List.foldl_cons,List.foldl_nil]
    rw[hcs]
    cases hp:BW n d m with
    | none=>simp[hp,Cx] at h
    | some s =>
      obtain⟨o1,d1⟩:=s
      obtain⟨bl,hb,hch,hdn⟩:=ih o1 d1 hp
      rw[hp] at h
      simp only[Cx,Option.bind_some] at h
      unfold Dq
      rw[← hdn]
      split at h
      · rename_i hc
        rw[if_pos hc]
        simp only[Option.some.injEq,Prod.mk.injEq] at h
        exact⟨bl,hb,hch,by rw[← h.2,hdn]⟩
      · rename_i hc
        rw[if_neg hc]
        cases hf:C5 n d (partF n d m) 12 with
        | none=>simp[hf] at h
        | some k =>
          rw[hf] at h
          simp only[Option.map_some,Option.some.injEq,Prod.mk.injEq] at h
          obtain⟨f1,f2,f3⟩:=PX hf
          obtain⟨p,p1,p2,p3,p4⟩:=Kl _ _ _ _ _ _ _ f3 (by simp) (by simp) (Ma _ _ _ _)
          refine⟨bl++[(p,oneD k)],hb.snoc p1 p2 p3 (Nl p2 p3 (by omega)) ?_,GA (EZ p1 p2 p3) f1 f2 hch,?_⟩
          · have e:(p.length:Int)=(rk k:Nat):=by omega
            rw[e]
            exact p4
          · rw[← h.2,hdn,List.flatten_append]
            simp
def gN:Nat→List (List (List Int))
  | 1=>[[[0]]]
  | 2=>[[[0],[1]],[[0,1]]]
  | 3=>[[[0],[1],[2]],[[0],[1,2]],[[0,2],[1]],[[0,2,1]],[[0,1],[2]],[[0,1,2]]]
  | 4=>[[[0],[1],[2],[3]],[[0],[1],[2,3]],[[0],[1,3],[2]],[[0],[1,3,2]],[[0],[1,2],[3]],[[0],[1,2,3]],[[0,3],[1],[2]],[[0,3,2],[1]],[[0,3,1],[2]],[[0,3,1,2]],[[0,3],[1,2]],[[0,3,2,1]],[[0,2],[1],[3]],[[0,2,3],[1]],[[0,2],[1,3]],[[0,2,3,1]],[[0,2,1],[3]],[[0,2,1,3]],[[0,1],[2],[3]],[[0,1],[2,3]],[[0,1,3],[2]],[[0,1,3,2]],[[0,1,2],[3]],[[0,1,2,3]]]
  | _=>[]
def Sf (n:Nat)(z:List Int):Bool :=
  let Rs:=C9 n z n
  (gN n).contains Rs&&((NF n).all fun a=>Rs.any (·.contains a))&&((NF n).all fun a=>(NF n).all fun b=>atI n z a b==0 || Rs.any fun R=>R.contains a&&R.contains b)
def cy (n:Nat):Bool:=(gN n).all fun Rs=>T5 Rs&&(B1 Rs).all fun bl=>fW n (cZ n bl)
def bt (b:Bool):Int:=if b then 1 else 0
theorem QZ (x:Int):sg x=bt (x != 0):=by
  unfold sg bt
  by_cases h:x=0 <;> simp[h]
theorem Ta {m:Nat}:1≤m→m≤4→cy m=true:=four (P:=fun m=>cy m=true) (by decide +kernel) (by decide +kernel) (by decide +kernel) (by decide +kernel)
theorem z1:∀ a:Bool,Sf 1 [bt a]=true:=by decide +kernel
theorem z2:∀ a b c:Bool,Sf 2 [bt a,bt b,bt b,bt c]=true:=by decide +kernel
theorem z3:∀ a b c d e f:Bool,Sf 3 [bt a,bt b,bt c,bt b,bt d,bt e,bt c,bt e,bt f]=true:=by decide +kernel
theorem z4:∀ a b c d e f g h i j:Bool,Sf 4 [bt a,bt b,bt c,bt d,bt b,bt e,bt f,bt g,bt c,bt f,bt h,bt i,bt d,bt g,bt i,bt j]=true:=by decide +kernel
theorem AP {d:List Int}{k:Nat}(h:d.length=k+1):∃ a t,d=a::t∧t.length=k:=by
  cases d with
  | nil=>simp at h
  | cons a t=>exact⟨a,t,rfl,by simpa using h⟩
theorem AW {n:Nat}{d:List Int}{i:Nat}(h:G9 n d i=false):d.getD i 0≠0→atI n d ((i:Int).tmod n) ((i:Int).tdiv n)≠0:=by
  simp only[G9,Bool.or_eq_false_iff,Bool.and_eq_false_iff] at h
  rcases h.2 with h | h
  · simp only[bne_eq_false_iff_eq] at h
    exact fun h'=>absurd h h'
  · exact fun _=>by simpa using h
theorem FB {a b:Int}(h1:a≠0→b≠0)(h2:b≠0→a≠0):bt (a != 0)=bt (b != 0):=by
  by_cases ha:a=0
  · by_cases hb:b=0
    · rw[ha,hb]
    · exact absurd ha (h2 hb)
  · have hb:=h1 ha
    simp[bt,ha,hb]
set_option maxHeartbeats 4000000 in
theorem US {m:Nat}{d:List Int}(h1:1≤m)(h4:m≤4)(hl:d.length=m*m)(hb:∀ i:Nat,i<d.length→G9 m d i=false):Sf m (pat d)=true:=by
  rcases(by omega:m=1∨m=2∨m=3∨m=4) with rfl | rfl | rfl | rfl
  · obtain⟨a,d0,rfl,l0⟩:=AP hl
    obtain rfl:=List.eq_nil_of_length_eq_zero l0
    have:=z1 (a != 0)
    simpa only[pat,List.map,QZ] using this
  · obtain⟨a0,d0,rfl,l0⟩:=AP hl
    obtain⟨a1,d1,rfl,l1⟩:=AP l0
    obtain⟨a2,d2,rfl,l2⟩:=AP l1
    obtain⟨a3,d3,rfl,l3⟩:=AP l2
    obtain rfl:=List.eq_nil_of_length_eq_zero l3
    have e1:bt (a2 != 0)=bt (a1 != 0):=FB (AW (hb 2 (by simp))) (AW (hb 1 (by simp)))
    have:=z2 (a0 != 0) (a1 != 0) (a3 != 0)
    simpa only[pat,List.map,QZ,e1] using this
  · obtain⟨a0,d0,rfl,l0⟩:=AP hl
    obtain⟨a1,d1,rfl,l1⟩:=AP l0
    obtain⟨a2,d2,rfl,l2⟩:=AP l1
    obtain⟨a3,d3,rfl,l3⟩:=AP l2
    obtain⟨a4,d4,rfl,l4⟩:=AP l3
    obtain⟨a5,d5,rfl,l5⟩:=AP l4
    obtain⟨a6,d6,rfl,l6⟩:=AP l5
    obtain⟨a7,d7,rfl,l7⟩:=AP l6
    obtain⟨a8,d8,rfl,l8⟩:=AP l7
    obtain rfl:=List.eq_nil_of_length_eq_zero l8
    have e1:bt (a3 != 0)=bt (a1 != 0):=FB (AW (hb 3 (by simp))) (AW (hb 1 (by simp)))
    have e2:bt (a6 != 0)=bt (a2 != 0):=FB (AW (hb 6 (by simp))) (AW (hb 2 (by simp)))
    have e3:bt (a7 != 0)=bt (a5 != 0):=FB (AW (hb 7 (by simp))) (AW (hb 5 (by simp)))
    have:=z3 (a0 != 0) (a1 != 0) (a2 != 0) (a4 != 0) (a5 != 0) (a8 != 0)
    simpa only[pat,List.map,QZ,e1,e2,e3] using this
  · obtain⟨a0,d0,rfl,l0⟩:=AP hl
    obtain⟨a1,d1,rfl,l1⟩:=AP l0
    obtain⟨a2,d2,rfl,l2⟩:=AP l1
    obtain⟨a3,d3,rfl,l3⟩:=AP l2
    obtain⟨a4,d4,rfl,l4⟩:=AP l3
    obtain⟨a5,d5,rfl,l5⟩:=AP l4
    obtain⟨a6,d6,rfl,l6⟩:=AP l5
    obtain⟨a7,d7,rfl,l7⟩:=AP l6
    obtain⟨a8,d8,rfl,l8⟩:=AP l7
    obtain⟨a9,d9,rfl,l9⟩:=AP l8
    obtain⟨a10,d10,rfl,l10⟩:=AP l9
    obtain⟨a11,d11,rfl,l11⟩:=AP l10
    obtain⟨a12,d12,rfl,l12⟩:=AP l11
    obtain⟨a13,d13,rfl,l13⟩:=AP l12
    obtain⟨a14,d14,rfl,l14⟩:=AP l13
    obtain⟨a15,d15,rfl,l15⟩:=AP l14
    obtain rfl:=List.eq_nil_of_length_eq_zero l15
    have e1:bt (a4 != 0)=bt (a1 != 0):=FB (AW (hb 4 (by simp))) (AW (hb 1 (by simp)))
    have e2:bt (a8 != 0)=bt (a2 != 0):=FB (AW (hb 8 (by simp))) (AW (hb 2 (by simp)))
    have e3:bt (a12 != 0)=bt (a3 != 0):=FB (AW (hb 12 (by simp))) (AW (hb 3 (by simp)))
    have e4:bt (a9 != 0)=bt (a6 != 0):=FB (AW (hb 9 (by simp))) (AW (hb 6 (by simp)))
    have e5:bt (a13 != 0)=bt (a7 != 0):=FB (AW (hb 13 (by simp))) (AW (hb 7 (by simp)))
    have e6:bt (a14 != 0)=bt (a11 != 0):=FB (AW (hb 14 (by simp))) (AW (hb 11 (by simp)))
    have:=z4 (a0 != 0) (a1 != 0) (a2 != 0) (a3 != 0) (a5 != 0) (a6 != 0) (a7 != 0) (a10 != 0) (a11 != 0) (a15 != 0)
    simpa only[pat,List.map,QZ,e1,e2,e3,e4,e5,e6] using this
theorem D3 {n:Int}{d:List Int}{ks:List Nat}(h:Ax n d=some ks):∃ m:Nat,n=m∧1≤m∧m≤4∧d∈Bt m:=by
  unfold Ax at h
  split at h
  · rename_i hok
    obtain⟨m,rfl,h1,h4,hl⟩:=M0 hok
    split at h
    · simp at h
    · rename_i hbad
      simp only[Int.toNat_natCast,Option.map_eq_some_iff] at h
      obtain⟨⟨out,done⟩,hp,_⟩:=h
      obtain⟨bl,hb,hch,_⟩:=RP _ _ _ _ _ hp
      have hz:=US h1 h4 hl fun i hi=>by
        simp only[List.any_eq_true,List.mem_range,not_exists,not_and,Bool.not_eq_true] at hbad
        exact hbad i hi
      simp only[Sf,Pi,Bool.and_eq_true,List.all_eq_true] at hz
      obtain⟨⟨c1,c2⟩,c3⟩:=hz
      have hB:=Ta h1 h4
      simp only[cy,List.all_eq_true,Bool.and_eq_true] at hB
      obtain⟨b1,b2⟩:=hB _ (by simpa using c1)
      have hd:d=cZ m bl:=Uz (by omega) hl fun a b ha hb'=>hb.entry b1 _ _ (by
        have:=c2 a (Fu ha)
        simp only[List.any_eq_true] at this
        obtain⟨R,h1,h2⟩:=this
        exact⟨R,h1,by simpa using h2⟩) fun hz'=>by
          have:=c3 a (Fu ha) b (Fu hb')
          rw[RC] at this
          simp only[Bool.or_eq_true,beq_iff_eq,List.any_eq_true,Bool.and_eq_true] at this
          rcases this with h | ⟨R,hR,h⟩
          · exact XS h
          · exact absurd ⟨by simpa using h.1,by simpa using h.2⟩ (hz' R hR)
      refine⟨m,rfl,h1,h4,?_⟩
      have:=b2 bl hch
      rw[hd]
      exact Qo this
  · simp at h
def di (n:Nat):Bool:=(Bt n).all fun d=>Ax n d==S7 n d
theorem TB {m:Nat}:1≤m→m≤4→di m=true:=four (P:=fun m=>di m=true) (by decide +kernel) (by decide +kernel) (by decide +kernel) (by decide +kernel)
theorem H2 (n:Int)(d:List Int):Ax n d=S7 n d:=by
  have key:∀ m:Nat,1≤m→m≤4→d∈Bt m→Ax m d=S7 m d:=fun m h1 h4 hd=>by
    have:=TB h1 h4
    simp only[di,List.all_eq_true,beq_iff_eq] at this
    exact this d hd
  cases hI:S7 n d with
  | some ks =>
    obtain⟨m,rfl,h1,h4,hd⟩:=UC hI
    rw[key m h1 h4 hd,hI]
  | none =>
    cases hS:Ax n d with
    | none=>rfl
    | some ks =>
      obtain⟨m,rfl,h1,h4,hd⟩:=D3 hS
      rw[← hS,key m h1 h4 hd,hI]
end Go.Proofs.YtbmnnbglipkidaaGreatDoor
