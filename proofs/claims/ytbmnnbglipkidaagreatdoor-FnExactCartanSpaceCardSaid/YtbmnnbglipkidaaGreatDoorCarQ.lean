/-
  What CartanOf answers: that a name cut at its signs '+' and a name looked through three bytes at a time tell the same parts. No program is spoken of.
-/
import Derived.Test.YtbmnnbglipkidaaGreatDoorCarP
import Derived.Test.YtbmnnbglipkidaaGreatDoorZ12
namespace Go.Proofs.YtbmnnbglipkidaaGreatDoor
set_option linter.unusedVariables false
set_option linter.unusedSimpArgs false
def nameBs (k:Nat):List UInt8:=(nameB k).data.toList
def nameNoL (l:List UInt8):Option Nat:=(List.range 12).find? fun k=>nameBs k==l
theorem nameNoL_some {l:List UInt8}{k:Nat}(h:nameNoL l=some k):k<12∧l=nameBs k:=by
  have h1:=List.mem_of_find?_eq_some h
  have h2:=List.find?_some h
  simp only[beq_iff_eq] at h2
  exact⟨by simpa using h1,h2.symm⟩
theorem nameBs_len:∀ k,k<12→(nameBs k).length=2∧(43:UInt8) ∉ nameBs k:=by decide
theorem nameNoL_len {l:List UInt8}(h:l.length≠2):nameNoL l=none:=by
  cases hh:nameNoL l with
  | none=>rfl
  | some k =>
    obtain⟨h1,h2⟩:=nameNoL_some hh
    exact absurd (h2 ▸ (nameBs_len k h1).1) h
theorem nameNoL_plus {l:List UInt8}(h:(43:UInt8)∈l):nameNoL l=none:=by
  cases hh:nameNoL l with
  | none=>rfl
  | some k =>
    obtain⟨h1,h2⟩:=nameNoL_some hh
    exact absurd (h2 ▸ h) (nameBs_len k h1).2
theorem range_nameL:nameL=(List.range 12).map nameB:=rfl
theorem nameNo_L (s:ByteArray):nameNo s=nameNoL s.data.toList:=by
  have key:∀ m,m≤12→((List.range 12).drop m).find? (fun k=>nameBs k==s.data.toList)=(((List.range 12).drop m).map nameB |>.findIdx? (strEq s ·)).map (· + m):=by
    intro m hm
    induction hn:12 - m generalizing m with
    | zero =>
      have:m=12:=by omega
      subst this
      rfl
    | succ d ih =>
      have hlt:m<(List.range 12).length:=by simp;omega
      rw[List.drop_eq_getElem_cons hlt]
      have e1:(List.range 12)[m]=m:=by simp
      have e2:strEq s (nameB m)=(nameBs m==s.data.toList):=by
        unfold strEq nameBs
        rw[toList_data,toList_data]
        exact BEq.comm
      rw[e1,List.find?_cons,List.map_cons,List.findIdx?_cons,e2]
      cases nameBs m==s.data.toList with
      | true=>simp
      | false =>
        simp only[Bool.false_eq_true,if_false]
        rw[ih (m+1) (by omega) (by omega)]
        cases (List.findIdx? (fun x=>strEq s x) (List.map nameB (List.drop (m+1) (List.range 12)))) with
        | none=>rfl
        | some i=>simp;omega
  have:=key 0 (by omega)
  simp only[List.drop_zero] at this
  rw[nameNoL,this,nameNo,range_nameL]
  cases List.findIdx? (fun x=>strEq s x) (List.map nameB (List.range 12)) <;> simp
def spl:List UInt8→List (List UInt8)
  | []=>[[]]
  | c::t=>if c=43 then[]::spl t else match spl t with
    | p::ps=>(c::p)::ps
    | []=>[[c]]
theorem spl_one:∀ {l:List UInt8},(43:UInt8) ∉ l→spl l = [l]
  | [],_=>rfl
  | c::t,h=>by
    have h1:c≠43:=fun e=>h (by simp[e])
    have h2:=spl_one (l:=t) fun hh=>h (by simp[hh])
    unfold spl
    rw[if_neg h1,h2]
theorem spl_app:∀ {p r:List UInt8},(43:UInt8) ∉ p→spl (p++43::r)=p::spl r
  | [],r,_=>by simp[spl]
  | c::t,r,h=>by
    have h1:c≠43:=fun e=>h (by simp[e])
    have h2:=spl_app (p:=t) (r:=r) fun hh=>h (by simp[hh])
    rw[List.cons_append,spl,if_neg h1,h2]
theorem spl_cases (l:List UInt8):((43:UInt8) ∉ l∧spl l = [l])∨∃ p r,l=p++43::r∧(43:UInt8) ∉ p∧spl l=p::spl r:=by
  induction l with
  | nil=>exact .inl ⟨by simp,rfl⟩
  | cons c t ih =>
    by_cases h:c=43
    · exact .inr ⟨[],t,by simp[h],by simp,by simp[spl,h]⟩
    · rcases ih with⟨h1,_⟩ | ⟨p,r,h1,h2,_⟩
      · have:(43:UInt8) ∉ c::t:=by
          intro hh
          rcases List.mem_cons.1 hh with e | hh
          · exact h e.symm
          · exact h1 hh
        exact .inl ⟨this,spl_one this⟩
      · have:(43:UInt8) ∉ c::p:=by
          intro hh
          rcases List.mem_cons.1 hh with e | hh
          · exact h e.symm
          · exact h2 hh
        refine .inr ⟨c::p,r,by simp[h1],this,?_⟩
        rw[h1,← List.cons_append]
        exact spl_app this
theorem index_app:∀ {p r:List UInt8},(43:UInt8) ∉ p→Lib.index (p++43::r) [43]=p.length
  | [],r,_=>by simp[Lib.index,List.isPrefixOf]
  | c::t,r,h=>by
    have h1:c≠43:=fun e=>h (by simp[e])
    have h2:=index_app (p:=t) (r:=r) fun hh=>h (by simp[hh])
    rw[List.cons_append]
    unfold Lib.index
    have h3 : ¬ (((t.length:Nat):Int) = -1):=by omega
    simp[List.isPrefixOf,Ne.symm h1,h2,h3]
theorem count_no {l:List UInt8}(h:(43:UInt8) ∉ l):Lib.count l [43]=0:=by
  rw[Lib.count_one]
  exact List.count_eq_zero.2 h
theorem count_app {p r:List UInt8}(h:(43:UInt8) ∉ p):Lib.count (p++43::r) [43]=Lib.count r [43]+1:=by
  rw[Lib.count_one,Lib.count_one,List.count_append,List.count_eq_zero.2 h]
  simp
theorem splitK_spl:∀ (m:Nat) (l:List UInt8),l.length≤m→Lib.splitK [43] 0 (Lib.count l [43]) l=spl l:=by
  intro m
  induction m with
  | zero =>
    intro l hl
    have:l = []:=List.eq_nil_of_length_eq_zero (by omega)
    subst this
    rfl
  | succ m ih =>
    intro l hl
    rcases spl_cases l with⟨h1,h2⟩ | ⟨p,r,h1,h2,h3⟩
    · rw[count_no h1,h2]
      rfl
    · rw[h3]
      subst h1
      have hr:r.length≤m:=by simp at hl;omega
      rw[count_app h2]
      unfold Lib.splitK
      rw[index_app h2]
      have hne : ¬ ((((p.length:Nat):Int) == -1)=true):=by simp
      rw[if_neg hne]
      have e1:((p.length:Nat):Int).toNat=p.length:=by omega
      rw[e1,Nat.add_zero,List.take_left' rfl]
      have e2:(p++43::r).drop (p.length+([43]:List UInt8).length)=r:=by
        rw[← List.drop_drop,List.drop_left' rfl]
        rfl
      rw[e2,ih r hr]
theorem plusSplit_spl (s:ByteArray):(plusSplit s).map (·.data.toList)=spl s.data.toList:=by
  unfold plusSplit
  rw[Lib.splitB_data]
  have:Lib.countB s ⟨#[43]⟩=Lib.count s.data.toList [43]:=rfl
  rw[this]
  exact splitK_spl _ _ (Nat.le_refl _)
def allNo (xs:List ByteArray):Option (List Nat):=xs.mapM nameNo
theorem allNo_L (xs:List ByteArray):allNo xs=(xs.map (·.data.toList)).mapM nameNoL:=by
  unfold allNo
  induction xs with
  | nil=>rfl
  | cons x xs ih=>simp only[List.map_cons,List.mapM_cons,nameNo_L,ih]
def cI (s:ByteArray):Option (List Nat):=(allNo (plusSplit s)).bind fun ks=>if 4<rkS ks then none else some ks
def scanL:Nat→List Nat→List UInt8→Option (List Nat)
  | 0,_,_=>none
  | f+1,ks,R=>if R = [] then(if rkS ks=0 then none else some ks) else
      if R.length<2∨(2<R.length∧(R[2]?≠some 43∨R.length=3)) then none else(nameNoL (R.take 2)).bind fun k=>if 4<rkS (ks++[k]) then none else scanL f (ks++[k]) (R.drop 3)
def cF (s:ByteArray):Option (List Nat):=scanL 6 [] s.data.toList
theorem foldl_add (l:List Nat):∀ a,l.foldl (· + ·) a=a+l.foldl (· + ·) 0:=by
  induction l with
  | nil=>simp
  | cons x l ih =>
    intro a
    simp only[List.foldl_cons]
    rw[ih (a+x),ih (0+x)]
    omega
theorem rkS_app (a b:List Nat):rkS (a++b)=rkS a+rkS b:=by
  simp only[rkS,List.map_append,List.foldl_append]
  exact foldl_add _ _
theorem rkS_cons (k:Nat)(l:List Nat):rkS (k::l)=rk k+rkS l:=by
  rw[← List.singleton_append,rkS_app]
  simp[rkS]
theorem rkS_ge {l:List Nat}(h:∀ k∈l,k<12):l.length≤rkS l:=by
  induction l with
  | nil=>simp[rkS]
  | cons k l ih =>
    rw[rkS_cons]
    have:=(rk_bd k (h k (by simp))).1
    have:=ih fun x hx=>h x (by simp[hx])
    simp only[List.length_cons]
    omega
theorem scan_eq:∀ (f:Nat) (ks:List Nat) (R:List UInt8),(∀ k∈ks,k<12)→rkS ks≤4→6≤f+ks.length→R≠[] →
    scanL f ks R=((spl R).mapM nameNoL).bind fun k'=>if 4<rkS (ks++k') then none else some (ks++k')
  | 0,ks,R,h12,hr,hf,_=>by
    have:=rkS_ge h12
    omega
  | f+1,ks,R,h12,hr,hf,hR=>by
    unfold scanL
    rw[if_neg hR]
    rcases spl_cases R with⟨h1,h2⟩ | ⟨p,r,h1,h2,h3⟩
    · rw[h2]
      simp only[List.mapM_cons,List.mapM_nil]
      by_cases hl:R.length=2
      · rw[if_neg (by omega),List.take_of_length_le (by omega),List.drop_eq_nil_of_le (by omega)]
        cases hk:nameNoL R with
        | none=>rfl
        | some k =>
          obtain⟨k12,_⟩:=nameNoL_some hk
          simp only[Option.bind_eq_bind,Option.bind_some,Option.pure_def]
          by_cases h4:4<rkS (ks++[k])
          · rw[if_pos h4,if_pos h4]
          · rw[if_neg h4,if_neg h4]
            have hks:∀ x∈ks++[k],x<12:=fun x hx=>by
              rcases List.mem_append.1 hx with hx | hx
              · exact h12 x hx
              · simp at hx
                omega
            have h5:=rkS_ge hks
            simp only[List.length_append,List.length_singleton] at h5
            obtain⟨g,rfl⟩:∃ g,f=g+1:=⟨f - 1,by omega⟩
            unfold scanL
            rw[if_pos rfl,if_neg (by omega)]
      · rw[nameNoL_len hl]
        simp only[Option.bind_eq_bind,Option.bind_none]
        by_cases hlt:R.length<2
        · rw[if_pos (.inl hlt)]
        · rw[if_pos (.inr ⟨by omega,.inl fun he=>h1 (List.mem_of_getElem? he)⟩)]
    · rw[h3]
      simp only[List.mapM_cons]
      subst h1
      by_cases hl:p.length=2
      · have e2:(p++43::r)[2]?=some 43:=by rw[List.getElem?_append_right (by omega),hl];rfl
        have e3:(p++43::r).take 2=p:=List.take_left' hl
        have e4:(p++43::r).drop 3=r:=by
          rw[show 3=p.length+1 by omega,← List.drop_drop,List.drop_left' rfl]
          rfl
        have e5:(p++43::r).length=r.length+3:=by simp;omega
        by_cases hr0:r = []
        · subst hr0
          rw[if_pos (.inr ⟨by rw[e5];simp,.inr (by rw[e5];rfl)⟩)]
          have:(spl []).mapM nameNoL=none:=by
            simp only[spl,List.mapM_cons]
            rw[nameNoL_len (by simp)]
            rfl
          rw[this]
          cases nameNoL p <;> rfl
        · have hr1:r.length≠0:=fun e=>hr0 (List.eq_nil_of_length_eq_zero e)
          have hno : ¬ ((p++43::r).length<2∨(2<(p++43::r).length∧((p++43::r)[2]?≠some 43∨(p++43::r).length=3))):=by
            rw[e5,e2]
            rintro(h | ⟨_,h | h⟩)
            · omega
            · exact h rfl
            · omega
          rw[if_neg hno,e3,e4]
          cases hk:nameNoL p with
          | none=>rfl
          | some k =>
            obtain⟨k12,_⟩:=nameNoL_some hk
            simp only[Option.bind_eq_bind,Option.bind_some,Option.pure_def]
            have hks:∀ x∈ks++[k],x<12:=fun x hx=>by
              rcases List.mem_append.1 hx with hx | hx
              · exact h12 x hx
              · simp at hx
                omega
            by_cases h4:4<rkS (ks++[k])
            · rw[if_pos h4]
              cases (spl r).mapM nameNoL with
              | none=>rfl
              | some k' =>
                simp only[Option.bind_some]
                rw[if_pos]
                rw[rkS_app,rkS_cons]
                rw[rkS_app] at h4
                simp only[rkS_cons] at h4
                have:rkS []=0:=rfl
                omega
            · rw[if_neg h4,scan_eq f (ks++[k]) r hks (by omega) (by simp;omega) hr0]
              cases (spl r).mapM nameNoL with
              | none=>rfl
              | some k'=>simp[List.append_assoc]
      · rw[nameNoL_len hl]
        simp only[Option.bind_eq_bind,Option.bind_none]
        by_cases hlt:p.length<2
        · by_cases hq:(p++43::r).length<2∨(2<(p++43::r).length∧((p++43::r)[2]?≠some 43∨(p++43::r).length=3))
          · rw[if_pos hq]
          · rw[if_neg hq,nameNoL_plus]
            · rfl
            · rw[List.take_append]
              refine List.mem_append.2 (.inr ?_)
              obtain⟨q,hq⟩:∃ q,2 - p.length=q+1:=⟨1 - p.length,by omega⟩
              rw[hq]
              simp
        · rw[if_pos]
          refine .inr ⟨by simp;omega,.inl fun he=>h2 ?_⟩
          rw[List.getElem?_append_left (by omega)] at he
          exact List.mem_of_getElem? he
theorem cI_cF (s:ByteArray):cI s=cF s:=by
  unfold cI cF
  rw[allNo_L,plusSplit_spl]
  by_cases h:s.data.toList = []
  · rw[h]
    have:(spl []).mapM nameNoL=none:=by
      simp only[spl,List.mapM_cons]
      rw[nameNoL_len (by simp)]
      rfl
    rw[this]
    rfl
  · rw[scan_eq 6 [] _ (by simp) (by simp[rkS]) (by simp) h]
    simp
def cR (s:ByteArray):Int:=match cF s with | some ks=>(rkS ks:Nat) | none=>0
def cD (s:ByteArray):List Int:=match cF s with | some ks=>(matOf ks).2 | none=>[]
theorem rkS_snoc (ks:List Nat)(k:Nat):rkS (ks++[k])=rkS ks+rk k:=by
  rw[rkS_app]
  simp[rkS]
theorem matOf_snoc (ks:List Nat)(k:Nat):matOf (ks++[k])=matStep (matOf ks) k:=by
  simp only[matOf,List.foldl_append,List.foldl_cons,List.foldl_nil]
theorem matOf_fst (ks:List Nat):(matOf ks).1=(rkS ks:Nat):=by
  have key:∀ l:List Nat,∀ s:Int × List Int,(l.foldl matStep s).1=s.1+(rkS l:Nat):=by
    intro l
    induction l with
    | nil=>intro s;simp[rkS]
    | cons k l ih =>
      intro s
      rw[List.foldl_cons,ih,rkS_cons]
      simp only[matStep]
      omega
  have:=key ks (0,[])
  simpa [matOf] using this
theorem sumD_len (n1:Int)(d1:List Int)(n2:Int)(d2:List Int):(sumD n1 d1 n2 d2).length=((n1+n2)*(n1+n2)).toNat:=by
  have key:∀ (l:List Nat) (f:List Int→Nat→List Int),(∀ o i,(f o i).length=o.length)→∀ o,(l.foldl f o).length=o.length:=by
    intro l f hf
    induction l with
    | nil=>intro o;rfl
    | cons x l ih=>intro o;rw[List.foldl_cons,ih,hf]
  unfold sumD
  rw[key _ _ fun o i=>key _ _ (fun o j=>by simp) o,key _ _ fun o i=>key _ _ (fun o j=>by simp) o,List.length_replicate]
theorem matOf_len (ks:List Nat):((matOf ks).2.length:Int)=(rkS ks:Nat)*(rkS ks:Nat):=by
  rcases List.eq_nil_or_concat ks with rfl | ⟨l,k,rfl⟩
  · rfl
  · rw[List.concat_eq_append,matOf_snoc]
    simp only[matStep,sumD_len,matOf_fst,rkS_snoc]
    have:0≤((rkS l:Int)+(rk k:Int))*((rkS l:Int)+(rk k:Int)):=Int.mul_nonneg (by omega) (by omega)
    rw[Int.toNat_of_nonneg this]
    simp
theorem cF_none {s:ByteArray}(h:cF s=none):cR s=0∧cD s = []∧(cF s).isSome=false:=by simp[cR,cD,h]
theorem cF_some {s:ByteArray}{ks:List Nat}(h:cF s=some ks):cR s=(rkS ks:Nat)∧cD s=(matOf ks).2∧(cF s).isSome=true:=by simp[cR,cD,h]
def jI (N a:Int)(k:Nat)(o:List Int)(i:Nat):List Int:=(List.range (rk k)).foldl (fun(o:List Int) (j:Nat)=>o.set ((a+(i:Int))*N+a+(j:Int)).toNat ((oneD k).getD ((i:Int)*(rk k:Int)+(j:Int)).toNat 0)) o
def jB (ks:List Nat)(N:Int)(o:List Int)(b:Nat):List Int:=(List.range (rk (ks.getD b 0))).foldl (jI N (rkS (ks.take b):Nat) (ks.getD b 0)) o
def joinD (ks:List Nat):List Int:=(List.range ks.length).foldl (jB ks (rkS ks:Nat)) (List.replicate ((rkS ks:Int)*(rkS ks:Int)).toNat 0)
def seqs:Nat→Nat→List (List Nat)
  | 0,_=>[[]]
  | f+1,r=>[]::(List.range 12).flatMap fun k=>if r<rk k then[] else(seqs f (r - rk k)).map (k :: ·)
theorem mem_seqs:∀ (f r:Nat) (ks:List Nat),(∀ k∈ks,k<12)→rkS ks≤r→ks.length≤f→ks∈seqs f r
  | 0,r,ks,_,_,hl=>by
    have:ks = []:=List.eq_nil_of_length_eq_zero (by omega)
    simp[this,seqs]
  | f+1,r,[],_,_,_=>by simp[seqs]
  | f+1,r,k::ks,h,hr,hl=>by
    rw[rkS_cons] at hr
    simp only[seqs,List.mem_cons,List.mem_flatMap,List.mem_range]
    refine .inr ⟨k,h k (by simp),?_⟩
    rw[if_neg (by omega)]
    exact List.mem_map.2 ⟨ks,mem_seqs f _ ks (fun x hx=>h x (by simp[hx])) (by omega) (by simpa using hl),rfl⟩
set_option maxRecDepth 100000 in
theorem joinD_chk:(seqs 4 4).all (fun ks=>joinD ks==(matOf ks).2)=true:=by decide +kernel
theorem joinD_mat {ks:List Nat}(h:∀ k∈ks,k<12)(hr:rkS ks≤4):joinD ks=(matOf ks).2:=by
  have h1:=rkS_ge h
  have:=List.all_eq_true.1 joinD_chk ks (mem_seqs 4 4 ks h hr (by omega))
  simpa using this
theorem rkS_take_succ {ks:List Nat}{b:Nat}(h:b<ks.length):rkS (ks.take (b+1))=rkS (ks.take b)+rk (ks.getD b 0):=by
  have e:ks.take (b+1)=ks.take b++[ks.getD b 0]:=by
    rw[List.take_add_one,List.getElem?_eq_getElem h]
    simp[List.getD,h]
  rw[e,rkS_snoc]
theorem rkS_take_le (ks:List Nat)(b:Nat):rkS (ks.take b)≤rkS ks:=by
  have:=rkS_app (ks.take b) (ks.drop b)
  rw[List.take_append_drop] at this
  omega
theorem rkS_le {l:List Nat}(h:∀ k∈l,k<12):rkS l≤4*l.length:=by
  induction l with
  | nil=>simp[rkS]
  | cons k l ih =>
    rw[rkS_cons]
    have:=(rk_bd k (h k (by simp))).2
    have:=ih fun x hx=>h x (by simp[hx])
    simp only[List.length_cons]
    omega
def rowC (ks:List Nat)(vs:List Value):List (List Value):=List.zipWith (fun k v=>[Value.int .i64 (rk k:Nat),v]) ks vs
theorem rowC_len {ks:List Nat}{vs:List Value}(h:vs.length=ks.length):(rowC ks vs).length=ks.length:=by simp[rowC,h]
theorem rowC_wf (ks:List Nat)(vs:List Value):∀ r∈rowC ks vs,r.length=2:=by
  intro r hr
  simp only[rowC,List.mem_iff_getElem?,List.getElem?_zipWith] at hr
  obtain⟨i,hi⟩:=hr
  cases h1:ks[i]? <;> cases h2:vs[i]? <;> simp_all
  subst hi
  rfl
theorem rowC_get {ks:List Nat}{vs:List Value}(h:vs.length=ks.length){b:Nat}(hb:b<ks.length):(rowC ks vs).getD b [] = [Value.int .i64 (rk (ks.getD b 0):Nat),vs.getD b undef]:=by
  simp[rowC,List.getD,hb,h]
theorem rowC_snoc {ks:List Nat}{vs:List Value}(h:vs.length=ks.length){k:Nat}{v:Value}{q:Int}(hq:q=(rk k:Nat)):rowC ks vs++[[Value.int .i64 q,v]]=rowC (ks++[k]) (vs++[v]):=by
  rw[hq,rowC,rowC,List.zipWith_append h.symm]
  rfl
theorem mapM_snoc (xs:List ByteArray)(x:ByteArray):(xs++[x]).mapM nameNo=(xs.mapM nameNo).bind fun ks=>(nameNo x).map fun k=>ks++[k]:=by
  induction xs with
  | nil =>
    simp only[List.nil_append,List.mapM_cons,List.mapM_nil]
    cases nameNo x <;> rfl
  | cons y xs ih =>
    simp only[List.cons_append,List.mapM_cons,ih]
    cases nameNo y with
    | none=>rfl
    | some k =>
      cases xs.mapM nameNo with
      | none=>rfl
      | some l=>cases nameNo x <;> rfl
theorem mapM_app_none {xs ys:List ByteArray}(h:xs.mapM nameNo=none):(xs++ys).mapM nameNo=none:=by
  induction xs with
  | nil=>simp at h
  | cons y xs ih =>
    simp only[List.cons_append,List.mapM_cons] at h ⊢
    cases hy:nameNo y with
    | none=>rfl
    | some k =>
      rw[hy] at h
      cases hx:xs.mapM nameNo with
      | none=>rw[ih hx];rfl
      | some l=>rw[hx] at h;simp at h
def Cut (s:ByteArray)(i:Nat)(ks:List Nat):Prop:=((plusSplit s).take i).mapM nameNo=some ks
theorem take_snoc {s:ByteArray}{i:Nat}(h:i<(plusSplit s).length):(plusSplit s).take (i+1)=(plusSplit s).take i++[(plusSplit s).getD i ⟨#[]⟩]:=by
  rw[List.take_add_one,List.getElem?_eq_getElem h]
  simp[List.getD,h]
theorem Cut.next {s:ByteArray}{i:Nat}{ks:List Nat}(h:Cut s i ks)(hi:i<(plusSplit s).length){k:Nat}(hk:nameNo ((plusSplit s).getD i ⟨#[]⟩)=some k):Cut s (i+1) (ks++[k]):=by
  unfold Cut at h ⊢
  rw[take_snoc hi,mapM_snoc,h,hk]
  rfl
theorem Cut.bad {s:ByteArray}{i:Nat}{ks:List Nat}(h:Cut s i ks)(hi:i<(plusSplit s).length)(hk:nameNo ((plusSplit s).getD i ⟨#[]⟩)=none):cF s=none:=by
  have h1:((plusSplit s).take (i+1)).mapM nameNo=none:=by
    unfold Cut at h
    rw[take_snoc hi,mapM_snoc,h,hk]
    rfl
  have:=mapM_app_none (ys:=(plusSplit s).drop (i+1)) h1
  rw[List.take_append_drop] at this
  rw[← cI_cF,cI,allNo,this]
  rfl
theorem Cut.stop {s:ByteArray}{i:Nat}{ks:List Nat}(h:Cut s i ks)(hi:(plusSplit s).length≤i):cF s=if 4<rkS ks then none else some ks:=by
  unfold Cut at h
  rw[List.take_of_length_le hi] at h
  rw[← cI_cF,cI,allNo,h]
  rfl
theorem Cut.lt {s:ByteArray}{i:Nat}{ks:List Nat}(h:Cut s i ks):∀ k∈ks,k<12:=by
  have key:∀ (xs:List ByteArray) (l:List Nat),xs.mapM nameNo=some l→∀ k∈l,k<12:=by
    intro xs
    induction xs with
    | nil =>
      intro l h k hk
      simp at h
      subst h
      simp at hk
    | cons x xs ih =>
      intro l h k hk
      simp only[List.mapM_cons,Option.bind_eq_bind,Option.bind_eq_some_iff,Option.pure_def,Option.some.injEq] at h
      obtain⟨a,ha,b,hb,rfl⟩:=h
      rcases List.mem_cons.1 hk with e | hk
      · exact e ▸ (nameNo_some ha).1
      · exact ih b hb k hk
  exact key _ _ h
theorem plusSplit_le (s:ByteArray):(plusSplit s).length≤s.size+1:=by
  rw[plusSplit_len]
  have:=Lib.countB_le ⟨#[43]⟩ (by decide) s.size s (Nat.le_refl _)
  omega
theorem some_of {o:Option Nat}(h:o.isSome=true):∃ k,o=some k:=Option.isSome_iff_exists.1 h
theorem none_of {o:Option Nat}(h:o.isSome=false):o=none:=by simpa using h
theorem getD_rng {xs:List Int}{n:Int}(h:∀ y∈xs,0≤y∧y<n){k:Nat}(hk:k<xs.length):0≤xs.getD k 0∧xs.getD k 0<n:=by
  have e:xs.getD k 0=xs[k]:=by simp[List.getD,hk]
  rw[e]
  exact h _ (List.getElem_mem hk)
theorem rng_snoc {xs:List Int}{n x:Int}(h:∀ y∈xs,0≤y∧y<n)(hx:0≤x∧x<n):∀ y∈xs++[x],0≤y∧y<n:=fun y hy=>by
  rcases List.mem_append.1 hy with hy | hy
  · exact h y hy
  · simp at hy
    exact hy ▸ hx
theorem nodup_le:∀ {p R:List Int},p.Nodup→(∀ x∈p,x∈R)→p.length≤R.length
  | [],_,_,_=>Nat.zero_le _
  | y::p,R,hn,hs=>by
    have hy:=hs y (by simp)
    have:=nodup_le (p:=p) (R:=R.erase y) (List.nodup_cons.1 hn).2 fun z hz=>by
      have hzy:z≠y:=fun e=>(List.nodup_cons.1 hn).1 (e ▸ hz)
      exact(List.mem_erase_of_ne hzy).2 (hs z (by simp[hz]))
    rw[List.length_erase_of_mem hy] at this
    have:=List.length_pos_of_mem hy
    simp only[List.length_cons]
    omega
theorem len_rng {xs:List Int}{n:Int}(hn:xs.Nodup)(h:∀ y∈xs,0≤y∧y<n):xs.length≤n.toNat:=by
  have:=nodup_le (R:=rng n.toNat) hn fun x hx=>by
    have h1:=h x hx
    simp only[rng,List.mem_map,List.mem_range]
    exact⟨x.toNat,by omega,by show ((x.toNat:Nat):Int)=x;omega⟩
  simpa [rng] using this
theorem nodup_snoc {p:List Int}{z:Int}(h:p.Nodup)(hz:z ∉ p):(p++[z]).Nodup:=by
  rw[List.nodup_append]
  refine⟨h,by simp,fun a ha b hb=>?_⟩
  simp at hb
  subst hb
  exact fun e=>hz (e ▸ ha)
section
variable {P:Program}{n:Nat}{env:List (Nat × Value)}{W:World}{own:List Asn}
theorem GE.ownEq {e:Exit}{Q:Exit→Act→World→Prop}{own':List Asn}(h:own=own')(k:GE e Q n env W own'):GE e Q n env W own:=h ▸ k
theorem GC.ownEq {c:Code}{Q:Exit→Act→World→Prop}{own':List Asn}(h:own=own')(k:GC P c Q n env W own'):GC P c Q n env W own:=h ▸ k
theorem G.ownEq {ops:Array Oper}{Q:Exit→Act→World→Prop}{rest:List Oper}{own':List Asn}(h:own=own')(k:G P ops Q rest n env W own'):G P ops Q rest n env W own:=h ▸ k
end
end Go.Proofs.YtbmnnbglipkidaaGreatDoor
