/-
  The law that both texts tell the same parts of a Cartan matrix; what is told is one of the matrices that are listed. No program is spoken of.
-/
import Derived.Test.YtbmnnbglipkidaaGreatDoorZ24
namespace Go.Proofs.YtbmnnbglipkidaaGreatDoor
set_option maxRecDepth 100000
set_option linter.unusedVariables false
set_option linter.unusedSimpArgs false
theorem mem_permsOf:∀ {m:Nat} {R p:List Int},p.length=m→p.Nodup→(∀ x∈p,x∈R)→p∈permsOf m R
  | 0,R,p,hl,_,_=>by
    have:p = []:=List.eq_nil_of_length_eq_zero hl
    simp[permsOf,this]
  | m+1,R,[],hl,_,_=>by simp at hl
  | m+1,R,x::p,hl,hn,hs=>by
    simp only[permsOf,List.mem_flatMap,List.mem_map]
    refine⟨x,hs x (by simp),p,mem_permsOf (by simpa using hl) (List.nodup_cons.1 hn).2 fun y hy=>?_,rfl⟩
    refine List.mem_filter.2 ⟨hs y (by simp[hy]),?_⟩
    have:y≠x:=fun e=>(List.nodup_cons.1 hn).1 (e ▸ hy)
    simpa using this
theorem foldl_and {α:Type}(f:α→Bool):∀ (l:List α) (b:Bool),l.foldl (fun b j=>b&&f j) b=(b&&l.all f)
  | [],b=>by simp
  | x::l,b=>by simp[foldl_and f l,Bool.and_assoc]
theorem idx_get:∀ {p:List Int} {x:Int},x∈p→idx x p<p.length∧p.getD (idx x p) 0=x
  | [],_,h=>by simp at h
  | y::t,x,h=>by
    unfold idx
    by_cases e:y=x
    · simp[e]
    · have hx:x∈t:=by
        rcases List.mem_cons.1 h with h | h
        · exact absurd h.symm e
        · exact h
      obtain⟨h1,h2⟩:=idx_get hx
      rw[if_neg e]
      refine⟨by simp;omega,?_⟩
      simpa using h2
def Chose (n:Int)(c:List Int)(m:Int)(D p:List Int):Prop:=∀ x y:Nat,x<p.length→y<p.length→atI n c (p.getD x 0) (p.getD y 0)=atI m D x y
theorem getD_app {p q:List Int}{x:Nat}(h:x<p.length):(p++q).getD x 0=p.getD x 0:=by
  simp only[List.getD,List.getElem?_append_left h]
theorem getD_last {p:List Int}{z:Int}:(p++[z]).getD p.length 0=z:=by simp[List.getD]
theorem Chose.snoc {n m:Int}{c D p:List Int}{z:Int}(h:Chose n c m D p)(h1:∀ j:Nat,j<p.length→atI n c z (p.getD j 0)=atI m D p.length j∧atI n c (p.getD j 0) z=atI m D j p.length)(h2:atI n c z z=atI m D p.length p.length):Chose n c m D (p++[z]):=by
  intro x y hx hy
  simp only[List.length_append,List.length_singleton] at hx hy
  by_cases ex:x=p.length
  · subst ex
    rw[getD_last]
    by_cases ey:y=p.length
    · subst ey
      rw[getD_last]
      exact h2
    · rw[getD_app (by omega)]
      exact(h1 y (by omega)).1
  · rw[getD_app (by omega)]
    by_cases ey:y=p.length
    · subst ey
      rw[getD_last]
      exact(h1 x (by omega)).2
    · rw[getD_app (by omega)]
      exact h x y (by omega) (by omega)
theorem nodup_snoc' {p:List Int}{z:Int}(h:p.Nodup)(hz:z ∉ p):(p++[z]).Nodup:=by
  rw[List.nodup_append]
  refine⟨h,by simp,fun a ha b hb=>?_⟩
  simp at hb
  subst hb
  exact fun e=>hz (e ▸ ha)
theorem reord_chose (n:Int)(c D:List Int):∀ (f:Nat) (rows:List Int),reordF n c D f rows=true→rows.Nodup→(∀ x∈rows,x∈rng n.toNat)→Chose n c n D rows →
    ∃ p:List Int,(p.length:Int)=n∧p.Nodup∧(∀ x∈p,x∈rng n.toNat)∧Chose n c n D p
  | 0,_,h,_,_,_=>by simp[reordF] at h
  | f+1,rows,h,hn,hs,hc=>by
    unfold reordF at h
    by_cases e:(rows.length:Int)=n
    · exact⟨rows,e,hn,hs,hc⟩
    · rw[if_neg e,List.any_eq_true] at h
      obtain⟨i,hi,h⟩:=h
      simp only[Bool.and_eq_true,fitI,foldl_and,Bool.true_and,List.all_eq_true,List.mem_range,beq_iff_eq] at h
      obtain⟨⟨h1,h2⟩,h3,h4⟩:=h
      have hz:(i:Int) ∉ rows:=by simpa using h1
      refine reord_chose n c D f _ h4 (nodup_snoc' hn hz) (fun x hx=>?_) (hc.snoc (fun j hj=>⟨(h3 j hj).1,(h3 j hj).2⟩) h2)
      rcases List.mem_append.1 hx with hx | hx
      · exact hs x hx
      · simp at hx
        subst hx
        simp only[rng,List.mem_map]
        exact⟨i,hi,rfl⟩
theorem fits_chose (n:Int)(c R:List Int)(m:Int)(D:List Int):∀ (f:Nat) (used:List Int),fitsF n c R m D f used=true→used.Nodup→(∀ x∈used,x∈R)→Chose n c m D used →
    ∃ p:List Int,p.length=R.length∧p.Nodup∧(∀ x∈p,x∈R)∧Chose n c m D p
  | 0,_,h,_,_,_=>by simp[fitsF] at h
  | f+1,used,h,hn,hs,hc=>by
    unfold fitsF at h
    by_cases e:used.length=R.length
    · exact⟨used,e,hn,hs,hc⟩
    · rw[if_neg e,List.any_eq_true] at h
      obtain⟨i,hi,h⟩:=h
      simp only[Bool.and_eq_true,fitS,foldl_and,Bool.true_and,List.all_eq_true,List.mem_range,beq_iff_eq] at h
      obtain⟨h1,h3,h4⟩:=h
      have hi':i<R.length:=by simpa using hi
      have hz:R.getD i 0 ∉ used:=by simpa using h1
      refine fits_chose n c R m D f _ h4 (nodup_snoc' hn hz) (fun x hx=>?_) (hc.snoc (fun j hj=>?_) ?_)
      · rcases List.mem_append.1 hx with hx | hx
        · exact hs x hx
        · simp at hx
          subst hx
          simp[hi']
      · have:=h3 j (by omega)
        rw[getD_last,getD_app hj] at this
        exact⟨this.1,this.2⟩
      · have:=h3 used.length (by omega)
        rw[getD_last] at this
        exact this.1
theorem chose_nil (n:Int)(c:List Int)(m:Int)(D:List Int):Chose n c m D []:=fun x y hx _=>by simp at hx
theorem eq_asm {n:Nat}{d:List Int}{bl:List (List Int × List Int)}(hn:0<n)(hl:d.length=n*n)(h:∀ a b:Nat,a<n→b<n→atI n d a b=entB bl a b):d=asm n bl:=by
  refine List.ext_getElem (by simp[asm,hl]) fun i h1 h2=>?_
  have hi:i<n*n:=by omega
  have ha:i / n<n:=Nat.div_lt_of_lt_mul hi
  have hb:i%n<n:=Nat.mod_lt _ hn
  have:=h (i / n) (i%n) ha hb
  have e:(((i / n:Nat):Int)*(n:Int)+((i%n:Nat):Int)).toNat=i:=by
    have h3:=Nat.div_add_mod i n
    rw[Nat.mul_comm] at h3
    omega
  simp only[atI,e] at this
  simp only[asm,List.getElem_map,List.getElem_range]
  rw[← this]
  simp[List.getD,h1]
inductive CBlk (n:Int)(c:List Int):List (List Int)→List (List Int × List Int)→Prop
  | nil:CBlk n c [] []
  | cons {R p D:List Int} {Rs:List (List Int)} {bl:List (List Int × List Int)}:p.length=R.length→p.Nodup→(∀ x∈p,x∈R)→(∀ x∈R,x∈p)→Chose n c p.length D p→CBlk n c Rs bl→CBlk n c (R::Rs) ((p,D)::bl)
def disj:List (List Int)→Bool
  | []=>true
  | R::Rs=>Rs.all (fun S=>R.all fun x => !(S.contains x))&&disj Rs
theorem CBlk.entry {n:Int}{c:List Int}:∀ {Rs:List (List Int)} {bl:List (List Int × List Int)},CBlk n c Rs bl→disj Rs=true→∀ a b:Int,(∃ R∈Rs,a∈R)→((∀ R∈Rs,¬ (a∈R∧b∈R))→atI n c a b=0)→atI n c a b=entB bl a b
  | _,_,.nil,_,a,b,hc,_=>by simp at hc
  | _,_,.cons (R:=R) (p:=p) (D:=D) (Rs:=Rs) (bl:=bl) hl hn hs hs' hch hb,hd,a,b,hc,hz=>by
    simp only[disj,Bool.and_eq_true,List.all_eq_true] at hd
    unfold entB
    by_cases ha:a∈R
    · have ha':=hs' a ha
      rw[if_pos (by simpa using ha')]
      by_cases hbR:b∈R
      · have hb':=hs' b hbR
        rw[if_pos (by simpa using hb')]
        obtain⟨i1,i2⟩:=idx_get ha'
        obtain⟨j1,j2⟩:=idx_get hb'
        have:=hch _ _ i1 j1
        rwa [i2,j2] at this
      · rw[if_neg (by simpa using fun h=>hbR (hs b h))]
        refine hz fun S hS ⟨h1,h2⟩=>?_
        rcases List.mem_cons.1 hS with e | hS
        · exact hbR (e ▸ h2)
        · have:=hd.1 S hS a ha
          simp[h1] at this
    · rw[if_neg (by simpa using fun h=>ha (hs a h))]
      refine CBlk.entry hb hd.2 a b ?_ fun h=>hz fun S hS h'=>?_
      · obtain⟨S,hS,h⟩:=hc
        rcases List.mem_cons.1 hS with e | hS
        · exact absurd (e ▸ h) ha
        · exact⟨S,hS,h⟩
      · rcases List.mem_cons.1 hS with e | hS
        · exact ha (e ▸ h'.1)
        · exact h S hS h'
def chkA (n:Nat):Bool:=(typesF 5 n 0).all fun ks=>(permsOf n (rng n)).all fun p=>inC n (asm n [(p,(matOf ks).2)])
theorem mem_rng {n k:Nat}(h:k<n):(k:Int)∈rng n:=by
  simp only[rng,List.mem_map,List.mem_range]
  exact⟨k,h,rfl⟩
theorem rng_len (n:Nat):(rng n).length=n:=by simp[rng]
theorem sub_all:∀ {p R:List Int},p.Nodup→(∀ x∈p,x∈R)→R.length≤p.length→∀ x∈R,x∈p
  | [],R,_,_,hl,x,hx=>by
    have:R = []:=List.eq_nil_of_length_eq_zero (by simpa using hl)
    simp[this] at hx
  | y::p,R,hn,hs,hl,x,hx=>by
    have hy:=hs y (by simp)
    by_cases e:x=y
    · simp[e]
    · refine List.mem_cons_of_mem _ (sub_all (R:=R.erase y) (List.nodup_cons.1 hn).2 (fun z hz=>?_) ?_ x ?_)
      · have hzy:z≠y:=fun e=>(List.nodup_cons.1 hn).1 (e ▸ hz)
        exact(List.mem_erase_of_ne hzy).2 (hs z (by simp[hz]))
      · rw[List.length_erase_of_mem hy]
        simp only[List.length_cons] at hl
        omega
      · exact(List.mem_erase_of_ne e).2 hx
theorem okI_nat {n:Int}{d:List Int}(h:okI n d=true):∃ m:Nat,n=m∧1≤m∧m≤4∧d.length=m*m:=by
  simp only[okI,Bool.and_eq_true,decide_eq_true_eq] at h
  obtain⟨h1,h2⟩:=h
  have h3:1≤n∧n≤4:=by simpa [inB] using h1
  refine⟨n.toNat,by omega,by omega,by omega,?_⟩
  have e:(n.toNat:Int)=n:=by omega
  have:((n.toNat*n.toNat:Nat):Int)=n*n:=by rw[Int.natCast_mul,e]
  omega
theorem four {P:Nat→Prop}(h1:P 1)(h2:P 2)(h3:P 3)(h4:P 4){m:Nat}(a:1≤m)(b:m≤4):P m:=by
  rcases(by omega:m=1∨m=2∨m=3∨m=4) with rfl | rfl | rfl | rfl <;> assumption
theorem chkA_all {m:Nat}:1≤m→m≤4→chkA m=true:=four (P:=fun m=>chkA m=true) (by decide +kernel) (by decide +kernel) (by decide +kernel) (by decide +kernel)
theorem tyI_cand {n:Int}{d:List Int}{ks:List Nat}(h:tyI n d=some ks):∃ m:Nat,n=m∧1≤m∧m≤4∧d∈candL m:=by
  unfold tyI at h
  split at h
  · rename_i hok
    obtain⟨m,rfl,h1,h4,hl⟩:=okI_nat hok
    simp only[Int.toNat_natCast] at h
    have hks:=List.mem_of_find?_eq_some h
    have hre:=List.find?_some h
    obtain⟨p,hp,hn,hs,hc⟩:=reord_chose _ _ _ _ _ hre (by simp) (by simp) (chose_nil _ _ _ _)
    simp only[Int.toNat_natCast] at hs
    have hpl:p.length=m:=by omega
    have hmem:p∈permsOf m (rng m):=mem_permsOf hpl hn hs
    have hall:∀ x∈rng m,x∈p:=sub_all hn hs (by rw[rng_len];omega)
    have hbl:CBlk m d [rng m] [(p,(matOf ks).2)] := .cons (by rw[rng_len];exact hpl) hn hs hall (by rw[hpl];exact hc) .nil
    have hd:d=asm m [(p,(matOf ks).2)]:=eq_asm (by omega) hl fun a b ha hb=>hbl.entry (by simp[disj]) _ _ ⟨_,by simp,mem_rng ha⟩ fun hz=>absurd ⟨mem_rng ha,mem_rng hb⟩ (hz _ (by simp))
    refine⟨m,rfl,h1,h4,?_⟩
    have hA:=chkA_all h1 h4
    simp only[chkA,List.all_eq_true] at hA
    have:=hA ks hks p hmem
    rw[hd]
    exact inC_mem this
  · simp at h
def sg (x:Int):Int:=if x=0 then 0 else 1
def pat (d:List Int):List Int:=d.map sg
theorem atI_pat (n:Int)(d:List Int)(i j:Int):atI n (pat d) i j=sg (atI n d i j):=by
  simp only[atI,pat,List.getD,List.getElem?_map]
  cases d[(i*n+j).toNat]? <;> simp[sg]
theorem sg_ne (x:Int):(sg x != 0)=(x != 0):=by
  unfold sg
  by_cases h:x=0 <;> simp[h]
theorem sg_zero {x:Int}(h:sg x=0):x=0:=by
  unfold sg at h
  split at h <;> simp_all
theorem partStep_pat (n:Int)(d:List Int)(k:Nat)(o:List Int):partStep n (pat d) k o=partStep n d k o:=by simp only[partStep,atI_pat,sg_ne]
theorem partL_pat (n:Int)(d:List Int):∀ (f:Nat) (o:List Int) (k:Nat),partL n (pat d) f o k=partL n d f o k
  | 0,_,_=>rfl
  | f+1,o,k=>by simp only[partL,partStep_pat,partL_pat n d f]
theorem partF_pat (n:Int)(d:List Int)(i:Int):partF n (pat d) i=partF n d i:=partL_pat _ _ _ _ _
def compsStep (n:Int)(d:List Int)(Rs:List (List Int))(i:Nat):List (List Int):=if Rs.flatten.contains (i:Int) then Rs else Rs++[partF n d i]
def compsF (n:Int)(d:List Int)(m:Nat):List (List Int):=(List.range m).foldl (compsStep n d) []
theorem compsF_pat (n:Int)(d:List Int)(m:Nat):compsF n (pat d) m=compsF n d m:=by
  have e:compsStep n (pat d)=compsStep n d:=by
    funext Rs i
    simp only[compsStep,partF_pat]
  rw[compsF,e]
  rfl
theorem CBlk.snoc {n:Int}{c:List Int}{R p D:List Int}:∀ {Rs:List (List Int)} {bl:List (List Int × List Int)},CBlk n c Rs bl→p.length=R.length→p.Nodup→(∀ x∈p,x∈R)→(∀ x∈R,x∈p)→Chose n c p.length D p→CBlk n c (Rs++[R]) (bl++[(p,D)])
  | _,_,.nil,h1,h2,h3,h4,h5 => .cons h1 h2 h3 h4 h5 .nil
  | _,_,.cons a1 a2 a3 a4 a5 hb,h1,h2,h3,h4,h5 => .cons a1 a2 a3 a4 a5 (hb.snoc h1 h2 h3 h4 h5)
theorem choices_snoc {R p:List Int}{k:Nat}(hp:p∈permsOf R.length R)(hk:k<12)(hr:rk k=R.length):∀ {Rs:List (List Int)} {bl:List (List Int × List Int)},bl∈choicesOf Rs→bl++[(p,oneD k)]∈choicesOf (Rs++[R])
  | [],bl,h=>by
    simp only[choicesOf,List.mem_singleton] at h
    subst h
    simp only[List.nil_append,choicesOf,List.mem_flatMap,List.mem_filter,List.mem_range,List.mem_map]
    exact⟨p,hp,k,⟨hk,by simpa using hr⟩,[],by simp,rfl⟩
  | S::Rs,bl,h=>by
    simp only[choicesOf,List.mem_flatMap,List.mem_map] at h
    obtain⟨q,hq,l,hl,t,ht,rfl⟩:=h
    simp only[List.cons_append,choicesOf,List.mem_flatMap,List.mem_map]
    exact⟨q,hq,l,hl,_,choices_snoc hp hk hr ht,rfl⟩
theorem found_some {n:Int}{d rows:List Int}{k:Nat}:∀ {m:Nat},foundF n d rows m=some k→k<m∧rk k=rows.length∧fitsF n d rows (rk k) (oneD k) 5 []=true:=by
  intro m
  unfold foundF
  induction m with
  | zero=>simp
  | succ m ih =>
    intro h
    rw[List.range_succ,List.foldl_append] at h
    simp only[List.foldl_cons,List.foldl_nil] at h
    split at h
    · rename_i hc
      simp only[Bool.and_eq_true,beq_iff_eq] at hc
      simp only[Option.some.injEq] at h
      subst h
      exact⟨by omega,hc.1,hc.2⟩
    · obtain⟨h1,h2⟩:=ih h
      exact⟨by omega,h2⟩
theorem parts_blk (n:Int)(d:List Int):∀ (m:Nat) (out:List Nat) (done:List Int),partsF n d m=some (out,done)→∃ bl,CBlk n d (compsF n d m) bl∧bl∈choicesOf (compsF n d m)∧done=(compsF n d m).flatten:=by
  intro m
  induction m with
  | zero =>
    intro out done h
    simp only[partsF,List.range_zero,List.foldl_nil,Option.some.injEq,Prod.mk.injEq] at h
    obtain⟨rfl,rfl⟩:=h
    exact⟨[],.nil,by simp[compsF,choicesOf],by simp[compsF]⟩
  | succ m ih =>
    intro out done h
    rw[partsF,List.range_succ,List.foldl_append] at h
    simp only[List.foldl_cons,List.foldl_nil] at h
    change partsStep n d (partsF n d m) m=_ at h
    have hcs:compsF n d (m+1)=compsStep n d (compsF n d m) m:=by
      simp only[compsF,List.range_succ,List.foldl_append,List.foldl_cons,List.foldl_nil]
    rw[hcs]
    cases hp:partsF n d m with
    | none=>simp[hp,partsStep] at h
    | some s =>
      obtain⟨o1,d1⟩:=s
      obtain⟨bl,hb,hch,hdn⟩:=ih o1 d1 hp
      rw[hp] at h
      simp only[partsStep,Option.bind_some] at h
      unfold compsStep
      rw[← hdn]
      split at h
      · rename_i hc
        rw[if_pos hc]
        simp only[Option.some.injEq,Prod.mk.injEq] at h
        exact⟨bl,hb,hch,by rw[← h.2,hdn]⟩
      · rename_i hc
        rw[if_neg hc]
        cases hf:foundF n d (partF n d m) 12 with
        | none=>simp[hf] at h
        | some k =>
          rw[hf] at h
          simp only[Option.map_some,Option.some.injEq,Prod.mk.injEq] at h
          obtain⟨f1,f2,f3⟩:=found_some hf
          obtain⟨p,p1,p2,p3,p4⟩:=fits_chose _ _ _ _ _ _ _ f3 (by simp) (by simp) (chose_nil _ _ _ _)
          refine⟨bl++[(p,oneD k)],hb.snoc p1 p2 p3 (sub_all p2 p3 (by omega)) ?_,choices_snoc (mem_permsOf p1 p2 p3) f1 f2 hch,?_⟩
          · have e:(p.length:Int)=(rk k:Nat):=by omega
            rw[e]
            exact p4
          · rw[← h.2,hdn,List.flatten_append]
            simp
def ccL:Nat→List (List (List Int))
  | 1=>[[[0]]]
  | 2=>[[[0],[1]],[[0,1]]]
  | 3=>[[[0],[1],[2]],[[0],[1,2]],[[0,2],[1]],[[0,2,1]],[[0,1],[2]],[[0,1,2]]]
  | 4=>[[[0],[1],[2],[3]],[[0],[1],[2,3]],[[0],[1,3],[2]],[[0],[1,3,2]],[[0],[1,2],[3]],[[0],[1,2,3]],[[0,3],[1],[2]],[[0,3,2],[1]],[[0,3,1],[2]],[[0,3,1,2]],[[0,3],[1,2]],[[0,3,2,1]],[[0,2],[1],[3]],[[0,2,3],[1]],[[0,2],[1,3]],[[0,2,3,1]],[[0,2,1],[3]],[[0,2,1,3]],[[0,1],[2],[3]],[[0,1],[2,3]],[[0,1,3],[2]],[[0,1,3,2]],[[0,1,2],[3]],[[0,1,2,3]]]
  | _=>[]
def chkZ (n:Nat)(z:List Int):Bool :=
  let Rs:=compsF n z n
  (ccL n).contains Rs&&((rng n).all fun a=>Rs.any (·.contains a))&&((rng n).all fun a=>(rng n).all fun b=>atI n z a b==0 || Rs.any fun R=>R.contains a&&R.contains b)
def chkB (n:Nat):Bool:=(ccL n).all fun Rs=>disj Rs&&(choicesOf Rs).all fun bl=>inC n (asm n bl)
def bt (b:Bool):Int:=if b then 1 else 0
theorem sg_bt (x:Int):sg x=bt (x != 0):=by
  unfold sg bt
  by_cases h:x=0 <;> simp[h]
theorem chkB_all {m:Nat}:1≤m→m≤4→chkB m=true:=four (P:=fun m=>chkB m=true) (by decide +kernel) (by decide +kernel) (by decide +kernel) (by decide +kernel)
theorem z1:∀ a:Bool,chkZ 1 [bt a]=true:=by decide +kernel
theorem z2:∀ a b c:Bool,chkZ 2 [bt a,bt b,bt b,bt c]=true:=by decide +kernel
theorem z3:∀ a b c d e f:Bool,chkZ 3 [bt a,bt b,bt c,bt b,bt d,bt e,bt c,bt e,bt f]=true:=by decide +kernel
theorem z4:∀ a b c d e f g h i j:Bool,chkZ 4 [bt a,bt b,bt c,bt d,bt b,bt e,bt f,bt g,bt c,bt f,bt h,bt i,bt d,bt g,bt i,bt j]=true:=by decide +kernel
theorem cons_of {d:List Int}{k:Nat}(h:d.length=k+1):∃ a t,d=a::t∧t.length=k:=by
  cases d with
  | nil=>simp at h
  | cons a t=>exact⟨a,t,rfl,by simpa using h⟩
theorem badE_zero {n:Nat}{d:List Int}{i:Nat}(h:badE n d i=false):d.getD i 0≠0→atI n d ((i:Int).tmod n) ((i:Int).tdiv n)≠0:=by
  simp only[badE,Bool.or_eq_false_iff,Bool.and_eq_false_iff] at h
  rcases h.2 with h | h
  · simp only[bne_eq_false_iff_eq] at h
    exact fun h'=>absurd h h'
  · exact fun _=>by simpa using h
theorem bt_eq {a b:Int}(h1:a≠0→b≠0)(h2:b≠0→a≠0):bt (a != 0)=bt (b != 0):=by
  by_cases ha:a=0
  · by_cases hb:b=0
    · rw[ha,hb]
    · exact absurd ha (h2 hb)
  · have hb:=h1 ha
    simp[bt,ha,hb]
set_option maxHeartbeats 4000000 in
theorem chkZ_all {m:Nat}{d:List Int}(h1:1≤m)(h4:m≤4)(hl:d.length=m*m)(hb:∀ i:Nat,i<d.length→badE m d i=false):chkZ m (pat d)=true:=by
  rcases(by omega:m=1∨m=2∨m=3∨m=4) with rfl | rfl | rfl | rfl
  · obtain⟨a,d0,rfl,l0⟩:=cons_of hl
    obtain rfl:=List.eq_nil_of_length_eq_zero l0
    have:=z1 (a != 0)
    simpa only[pat,List.map,sg_bt] using this
  · obtain⟨a0,d0,rfl,l0⟩:=cons_of hl
    obtain⟨a1,d1,rfl,l1⟩:=cons_of l0
    obtain⟨a2,d2,rfl,l2⟩:=cons_of l1
    obtain⟨a3,d3,rfl,l3⟩:=cons_of l2
    obtain rfl:=List.eq_nil_of_length_eq_zero l3
    have e1:bt (a2 != 0)=bt (a1 != 0):=bt_eq (badE_zero (hb 2 (by simp))) (badE_zero (hb 1 (by simp)))
    have:=z2 (a0 != 0) (a1 != 0) (a3 != 0)
    simpa only[pat,List.map,sg_bt,e1] using this
  · obtain⟨a0,d0,rfl,l0⟩:=cons_of hl
    obtain⟨a1,d1,rfl,l1⟩:=cons_of l0
    obtain⟨a2,d2,rfl,l2⟩:=cons_of l1
    obtain⟨a3,d3,rfl,l3⟩:=cons_of l2
    obtain⟨a4,d4,rfl,l4⟩:=cons_of l3
    obtain⟨a5,d5,rfl,l5⟩:=cons_of l4
    obtain⟨a6,d6,rfl,l6⟩:=cons_of l5
    obtain⟨a7,d7,rfl,l7⟩:=cons_of l6
    obtain⟨a8,d8,rfl,l8⟩:=cons_of l7
    obtain rfl:=List.eq_nil_of_length_eq_zero l8
    have e1:bt (a3 != 0)=bt (a1 != 0):=bt_eq (badE_zero (hb 3 (by simp))) (badE_zero (hb 1 (by simp)))
    have e2:bt (a6 != 0)=bt (a2 != 0):=bt_eq (badE_zero (hb 6 (by simp))) (badE_zero (hb 2 (by simp)))
    have e3:bt (a7 != 0)=bt (a5 != 0):=bt_eq (badE_zero (hb 7 (by simp))) (badE_zero (hb 5 (by simp)))
    have:=z3 (a0 != 0) (a1 != 0) (a2 != 0) (a4 != 0) (a5 != 0) (a8 != 0)
    simpa only[pat,List.map,sg_bt,e1,e2,e3] using this
  · obtain⟨a0,d0,rfl,l0⟩:=cons_of hl
    obtain⟨a1,d1,rfl,l1⟩:=cons_of l0
    obtain⟨a2,d2,rfl,l2⟩:=cons_of l1
    obtain⟨a3,d3,rfl,l3⟩:=cons_of l2
    obtain⟨a4,d4,rfl,l4⟩:=cons_of l3
    obtain⟨a5,d5,rfl,l5⟩:=cons_of l4
    obtain⟨a6,d6,rfl,l6⟩:=cons_of l5
    obtain⟨a7,d7,rfl,l7⟩:=cons_of l6
    obtain⟨a8,d8,rfl,l8⟩:=cons_of l7
    obtain⟨a9,d9,rfl,l9⟩:=cons_of l8
    obtain⟨a10,d10,rfl,l10⟩:=cons_of l9
    obtain⟨a11,d11,rfl,l11⟩:=cons_of l10
    obtain⟨a12,d12,rfl,l12⟩:=cons_of l11
    obtain⟨a13,d13,rfl,l13⟩:=cons_of l12
    obtain⟨a14,d14,rfl,l14⟩:=cons_of l13
    obtain⟨a15,d15,rfl,l15⟩:=cons_of l14
    obtain rfl:=List.eq_nil_of_length_eq_zero l15
    have e1:bt (a4 != 0)=bt (a1 != 0):=bt_eq (badE_zero (hb 4 (by simp))) (badE_zero (hb 1 (by simp)))
    have e2:bt (a8 != 0)=bt (a2 != 0):=bt_eq (badE_zero (hb 8 (by simp))) (badE_zero (hb 2 (by simp)))
    have e3:bt (a12 != 0)=bt (a3 != 0):=bt_eq (badE_zero (hb 12 (by simp))) (badE_zero (hb 3 (by simp)))
    have e4:bt (a9 != 0)=bt (a6 != 0):=bt_eq (badE_zero (hb 9 (by simp))) (badE_zero (hb 6 (by simp)))
    have e5:bt (a13 != 0)=bt (a7 != 0):=bt_eq (badE_zero (hb 13 (by simp))) (badE_zero (hb 7 (by simp)))
    have e6:bt (a14 != 0)=bt (a11 != 0):=bt_eq (badE_zero (hb 14 (by simp))) (badE_zero (hb 11 (by simp)))
    have:=z4 (a0 != 0) (a1 != 0) (a2 != 0) (a3 != 0) (a5 != 0) (a6 != 0) (a7 != 0) (a10 != 0) (a11 != 0) (a15 != 0)
    simpa only[pat,List.map,sg_bt,e1,e2,e3,e4,e5,e6] using this
theorem tyS_cand {n:Int}{d:List Int}{ks:List Nat}(h:tyS n d=some ks):∃ m:Nat,n=m∧1≤m∧m≤4∧d∈candL m:=by
  unfold tyS at h
  split at h
  · rename_i hok
    obtain⟨m,rfl,h1,h4,hl⟩:=okI_nat hok
    split at h
    · simp at h
    · rename_i hbad
      simp only[Int.toNat_natCast,Option.map_eq_some_iff] at h
      obtain⟨⟨out,done⟩,hp,_⟩:=h
      obtain⟨bl,hb,hch,_⟩:=parts_blk _ _ _ _ _ hp
      have hz:=chkZ_all h1 h4 hl fun i hi=>by
        simp only[List.any_eq_true,List.mem_range,not_exists,not_and,Bool.not_eq_true] at hbad
        exact hbad i hi
      simp only[chkZ,compsF_pat,Bool.and_eq_true,List.all_eq_true] at hz
      obtain⟨⟨c1,c2⟩,c3⟩:=hz
      have hB:=chkB_all h1 h4
      simp only[chkB,List.all_eq_true,Bool.and_eq_true] at hB
      obtain⟨b1,b2⟩:=hB _ (by simpa using c1)
      have hd:d=asm m bl:=eq_asm (by omega) hl fun a b ha hb'=>hb.entry b1 _ _ (by
        have:=c2 a (mem_rng ha)
        simp only[List.any_eq_true] at this
        obtain⟨R,h1,h2⟩:=this
        exact⟨R,h1,by simpa using h2⟩) fun hz'=>by
          have:=c3 a (mem_rng ha) b (mem_rng hb')
          rw[atI_pat] at this
          simp only[Bool.or_eq_true,beq_iff_eq,List.any_eq_true,Bool.and_eq_true] at this
          rcases this with h | ⟨R,hR,h⟩
          · exact sg_zero h
          · exact absurd ⟨by simpa using h.1,by simpa using h.2⟩ (hz' R hR)
      refine⟨m,rfl,h1,h4,?_⟩
      have:=b2 bl hch
      rw[hd]
      exact inC_mem this
  · simp at h
def chkC (n:Nat):Bool:=(candL n).all fun d=>tyS n d==tyI n d
theorem chkC_all {m:Nat}:1≤m→m≤4→chkC m=true:=four (P:=fun m=>chkC m=true) (by decide +kernel) (by decide +kernel) (by decide +kernel) (by decide +kernel)
theorem tyS_tyI (n:Int)(d:List Int):tyS n d=tyI n d:=by
  have key:∀ m:Nat,1≤m→m≤4→d∈candL m→tyS m d=tyI m d:=fun m h1 h4 hd=>by
    have:=chkC_all h1 h4
    simp only[chkC,List.all_eq_true,beq_iff_eq] at this
    exact this d hd
  cases hI:tyI n d with
  | some ks =>
    obtain⟨m,rfl,h1,h4,hd⟩:=tyI_cand hI
    rw[key m h1 h4 hd,hI]
  | none =>
    cases hS:tyS n d with
    | none=>rfl
    | some ks =>
      obtain⟨m,rfl,h1,h4,hd⟩:=tyS_cand hS
      rw[← hS,key m h1 h4 hd,hI]
end Go.Proofs.YtbmnnbglipkidaaGreatDoor
