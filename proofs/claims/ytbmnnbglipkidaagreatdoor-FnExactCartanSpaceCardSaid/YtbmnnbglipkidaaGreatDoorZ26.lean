/-
  What is owned and keeps some of what it holds to itself; slices of truth values; pairs of lists as keys of maps.
-/
import Derived.Test.YtbmnnbglipkidaaGreatDoorNewA
import Derived.Test.YtbmnnbglipkidaaGreatDoorMap
import Derived.Test.YtbmnnbglipkidaaGreatDoorCnv
namespace Go.Proofs.YtbmnnbglipkidaaGreatDoor
set_option linter.unusedVariables false
set_option linter.unusedSimpArgs false
open Go.RowKit
def hdn {ι:Type}(φ:ι→Prop)(L:ι→List Asn):Asn where
  p F w:=∃ j,φ j∧(pack (L j)).p F w
  loc h hw:=let ⟨j,h1,h2⟩:=h;⟨j,h1,(pack (L j)).loc h2 hw⟩
section
variable {ι:Type}{φ:ι→Prop}{L:ι→List Asn}{W w:World}{own:List Asn}{P:Program}{n:Nat}{env:List (Nat × Value)}
theorem St.hdnClose {j:ι}(hj:φ j)(h:St W w (L j++own)):St W w (Proofs.YtbmnnbglipkidaaGreatDoor.hdn φ L::own):=by
  obtain⟨h1,h2,h3,F,h4,F1,F2,a1,a2,a3,a4⟩:=St.pack h
  exact⟨h1,h2,h3,F,h4,F1,F2,a1,a2,⟨j,hj,a3⟩,a4⟩
theorem St.hdnOpen (h:St W w (Proofs.YtbmnnbglipkidaaGreatDoor.hdn φ L::own)):∃ j,φ j∧St W w (L j++own):=by
  obtain⟨h1,h2,h3,F,h4,F1,F2,a1,a2,⟨j,hj,a3⟩,a4⟩:=h
  exact⟨j,hj,St.unpack ⟨h1,h2,h3,F,h4,F1,F2,a1,a2,a3,a4⟩⟩
theorem GC.hdnOpen {c:Code}{Q:Exit→Act→World→Prop}(h:∀ j,φ j→GC P c Q n env W (L j++own)):GC P c Q n env W (Proofs.YtbmnnbglipkidaaGreatDoor.hdn φ L::own):=fun a w hf hs=>by
  obtain⟨j,h1,h2⟩:=hs.hdnOpen
  exact h j h1 a w hf h2
theorem GC.hdnClose {c:Code}{Q:Exit→Act→World→Prop}(j:ι)(hj:φ j)(h:GC P c Q n env W (Proofs.YtbmnnbglipkidaaGreatDoor.hdn φ L::own)):GC P c Q n env W (L j++own):=fun a w hf hs=>h a w hf (hs.hdnClose hj)
theorem GE.hdnClose {e:Exit}{Q:Exit→Act→World→Prop}(j:ι)(hj:φ j)(h:GE e Q n env W (Proofs.YtbmnnbglipkidaaGreatDoor.hdn φ L::own)):GE e Q n env W (L j++own):=fun a w hf hs=>h a w hf (hs.hdnClose hj)
theorem Spec.atIdx {f:FuncId}{vs:List Value}{A:Asn}{i:Nat}{r:Value}(h:own[i]?=some A)(hs:Spec P f vs W (A::own.eraseIdx i) fun v ow=>v=r∧ow=A::own.eraseIdx i):Spec P f vs W own fun v ow=>v=r∧ow=own:=fun w hst=>by
  refine(hs w (hst.perm (perm_front h))).mono ?_
  rintro e w2 ⟨v,ow,he,⟨hv,rfl⟩,hs2⟩
  exact⟨v,own,he,⟨hv,rfl⟩,hs2.perm (perm_front h).symm⟩
variable {o:Oper}{e t bytes:Nat}{x y:Operand}{v:Value}{xs:List Bool}{i j:Nat}
end
def prB (p:List Int × List Int):ByteArray:=(fmtB p.1++⟨#[44]⟩)++fmtB p.2
def keyP (p:List Int × List Int):Value := .string (prB p)
theorem fmtL_no44 (xs:List Int):∀ b∈fmtL xs,b≠44:=by
  have tail:∀ xs:List Int,∀ b∈Lib.joinTail [32] (xs.map Lib.itoa),b≠44:=by
    intro xs
    induction xs with
    | nil=>intro b hb;simp[Lib.joinTail] at hb
    | cons x xs ih =>
      intro b hb
      have hb':b∈[(32:UInt8)]++(Lib.itoa x++Lib.joinTail [32] (xs.map Lib.itoa)):=by simpa [Lib.joinTail] using hb
      rcases List.mem_append.1 hb' with h | h
      · rw[List.mem_singleton.1 h];decide
      · rcases List.mem_append.1 h with h | h
        · intro e
          exact(itoa_rng x b h).2 (by rw[e];rfl)
        · exact ih b h
  intro b hb
  cases xs with
  | nil=>simp[fmtL,Lib.join] at hb
  | cons x xs =>
    have e:fmtL (x::xs)=Lib.itoa x++Lib.joinTail [32] (xs.map Lib.itoa):=by rw[fmtL,List.map_cons,Lib.join_cons]
    rw[e] at hb
    rcases List.mem_append.1 hb with h | h
    · intro e
      exact(itoa_rng x b h).2 (by rw[e];rfl)
    · exact tail xs b h
theorem prB_inj {p q:List Int × List Int}(h:prB p=prB q):p=q:=by
  have h1:fmtL p.1++44::fmtL p.2=fmtL q.1++44::fmtL q.2:=by
    have:=congrArg (fun b:ByteArray=>b.data.toList) h
    simpa [prB,fmtB,ByteArray.data_append] using this
  obtain⟨e1,e2⟩:=cut_eq (c:=44) (fmtL_no44 _) (fmtL_no44 _) (.inr ⟨_,rfl⟩) (.inr ⟨_,rfl⟩) h1
  have e3:=fmtL_inj e1
  have e4:=fmtL_inj (List.cons.inj e2).2
  cases p
  cases q
  simp_all
theorem prB_eq (p q:List Int × List Int):prB p=prB q↔p=q:=⟨prB_inj,fun h=>by rw[h]⟩
theorem keyP_E {P:Program}{kt:TypeId}(h:P.underlying kt=some .string):KeyE P kt keyP :=
  ⟨⟨_,h,fun _=>trivial,fun a b=>by
    show some (prB a==prB b)=_
    rw[ba_beq]
    exact congrArg some (decide_eq_decide.2 (prB_eq a b))⟩,fun a=>by
    show (prB a==prB a)=true
    rw[ba_beq,decide_eq_true rfl]⟩
end Go.Proofs.YtbmnnbglipkidaaGreatDoor
namespace Go.Proofs.YtbmnnbglipkidaaGreatDoor
set_option linter.unusedVariables false
set_option linter.unusedSimpArgs false
section
variable {n:Int}{d:List Int}
theorem cnFst_at {RH:List (List Int × Int)}{z:List Int}{h:List Int→Int}:∀ (L:List (List Int)) {k:Nat},k<L.length→(∀ j,j<k→cnF RH (lA z (-1) (L.getD j []))=0)→cnF RH (lA z (-1) (L.getD k []))≠0→cnFst RH z (L.map fun r=>(r,h r))=(L.getD k [],lA z (-1) (L.getD k []))
  | [],k,hk,_,_=>by simp at hk
  | r::t,0,_,_,h2=>by
    rw[List.map_cons,cnFst,rcL_eq]
    have h3:cnF RH (lA z (-1) r)≠0:=h2
    rw[decide_eq_false h3]
    rfl
  | r::t,k+1,hk,h1,h2=>by
    rw[List.map_cons,cnFst,rcL_eq]
    have h3:cnF RH (lA z (-1) r)=0:=h1 0 (by omega)
    rw[decide_eq_true h3]
    exact cnFst_at t (by simpa using hk) (fun j hj=>h1 (j+1) (by omega)) h2
theorem cnRch_run (hS:(tyS n d).isSome=true){g f:List Int}(hg:rtB (rSt n d) g=true)(hf:rtB (rSt n d) f=true)(hp:cnRch (cnRH n d) g f≤3) :
    rch (fun(m:Nat)=>fdB n (rKvs n d) (lpF g (-1*(m:Int)) f)) 40 0=cnRch (cnRH n d) g f∧rch (fun(m:Nat)=>rtB (rSt n d) (lpF g (m:Int) (mnF f))) 40 0=cnRch (cnRH n d) g f:=by
  obtain⟨g1,g2,_⟩:=rt_tens hS hg
  obtain⟨f1,f2,_⟩:=rt_tens hS hf
  have hl:f.length=g.length:=by omega
  have e:∀ m:Nat,m≤4→(rcL (lA g (-(m:Int)) f) fun u => !(decide (cnH (cnRH n d) u=0)))=rtB (rSt n d) (lA g (-(m:Int)) f):=fun m _=>by rw[rcL_eq,cnH_nz hS,Bool.not_not]
  have e1:∀ m:Nat,m≤4→fdB n (rKvs n d) (lpF g (-1*(m:Int)) f)=rtB (rSt n d) (lA g (-(m:Int)) f):=fun m hm=>by
    rw[← (rtOk hS).any (lpF_all64 (ten_64' g2)),lp_lA hl (by omega) (ten_fif g2) (ten_fif f2),Int.neg_mul,Int.one_mul]
  have e2:∀ m:Nat,m≤4→rtB (rSt n d) (lpF g (m:Int) (mnF f))=rtB (rSt n d) (lA g (-(m:Int)) f):=fun m hm=>by
    rw[lp_lA (by rw[mnF_len];exact hl) (by omega) (ten_fif g2) (ten_fif (mn_ten f2)),lA_mn _ hl]
  obtain⟨_,a2,a3⟩:=rch_out (f:=fun(m:Nat)=>rcL (lA g (-(m:Int)) f) fun u => !(decide (cnH (cnRH n d) u=0))) 4 0
  have ep:cnRch (cnRH n d) g f=rch (fun(m:Nat)=>rcL (lA g (-(m:Int)) f) fun u => !(decide (cnH (cnRH n d) u=0))) 4 0:=rfl
  rw[← ep] at a2 a3
  generalize cnRch (cnRH n d) g f=p at *
  have b2:∀ j,j<p→rtB (rSt n d) (lA g (-((j+1:Nat):Int)) f)=true:=fun j hj=>(e (j+1) (by omega)).symm.trans (a2 j (Nat.zero_le _) hj)
  have b3:rtB (rSt n d) (lA g (-((p+1:Nat):Int)) f)=false:=(e (p+1) (by omega)).symm.trans (a3 (by omega))
  exact⟨rch_is 40 0 p (Nat.zero_le _) (by omega) (fun j _ hj=>(e1 (j+1) (by omega)).trans (b2 j hj)) ((e1 (p+1) (by omega)).trans b3),rch_is 40 0 p (Nat.zero_le _) (by omega) (fun j _ hj=>(e2 (j+1) (by omega)).trans (b2 j hj)) ((e2 (p+1) (by omega)).trans b3)⟩
where
  ten_64' {x:List Int} (h:ten x):All64 x:=fun y hy=>by
    obtain⟨k,hk,rfl⟩:=List.mem_iff_getElem.1 hy
    have:=h k
    have e:x.getD k 0=x[k]:=by simp[List.getD,hk]
    rw[e] at this
    exact⟨by omega,by omega⟩
def shF (n:Int)(d a b c e:List Int):Int:=if rtB (rSt n d) (lA a 1 b) then(6*nF n d a b*nF n d c e).tdiv (hn n d (lA a 1 b)) else 0
theorem cnSh_un (hS:(tyS n d).isSome=true)(a b c e:List Int):cnSh (cnRH n d) (cnTT n d) a b c e=shF n d a b c e:=by
  rw[cnSh,rcL_eq,rcZ_eq,cnH_nz hS,cnH_rh hS,shF]
  cases rtB (rSt n d) (lA a 1 b) <;> rfl
theorem shF_bd (hS:(tyS n d).isSome=true){a b c e:List Int}(ha:rtB (rSt n d) a=true)(hb:rtB (rSt n d) b=true)(hc:rtB (rSt n d) c=true)(he:rtB (rSt n d) e=true) : -864≤shF n d a b c e∧shF n d a b c e≤864:=by
  rw[shF]
  split
  · rename_i h
    have h1:=nF_bd hS ha hb
    have h2:=nF_bd hS hc he
    have h3:=mul_abs (a:=6*nF n d a b) (b:=nF n d c e) (A:=72) (B:=12) (by omega) (by omega)
    exact tdiv_abs (hn_bd hS h).1 (by omega)
  · omega
structure Fst (n:Int)(d z:List Int)(k p:Nat)(r s:List Int):Prop where
  hr:r∈rSt n d
  hs:s∈rSt n d
  sum:sP r+sP s=sP z
  hp:p≤3
  run:rch (fun(m:Nat)=>fdB n (rKvs n d) (lpF s (-1*(m:Int)) r)) 40 0=p
  runS:rch (fun(m:Nat)=>rtB (rSt n d) (lpF s (m:Int) (mnF r))) 40 0=p
  at_:∀ {x y},x∈rSt n d→y∈rSt n d→lA x 1 y=z→nF n d x y=if x=r then(p:Int)+1 else if y=r then -((p:Int)+1) else(hn n d z*(shF n d y (mnF r) x (mnF s)+shF n d (mnF r) x y (mnF s))).tdiv (6*((p:Int)+1))
theorem fst_at (hS:(tyS n d).isSome=true){z:List Int}(hz:z∈rSt n d){k:Nat}(hk:k<(rSt n d).length)(h0:∀ j,j<k→(rSt n d).contains (lA z (-1) ((rSt n d).getD j []))=false)(h1:(rSt n d).contains (lA z (-1) ((rSt n d).getD k []))=true) :
    ∃ p,Fst n d z k p ((rSt n d).getD k []) (lA z (-1) ((rSt n d).getD k [])):=by
  have hr:(rSt n d).getD k []∈rSt n d:=by
    have e:(rSt n d).getD k []=(rSt n d)[k]:=by simp[List.getD,hk]
    rw[e]
    exact List.getElem_mem hk
  have hs:=contains_mem.1 h1
  have hz0:∀ {u},(rSt n d).contains u=false→cnF (cnRH n d) u=0:=fun {u} h=>by rw[cnF_rh,h];rfl
  have hz1:cnF (cnRH n d) (lA z (-1) ((rSt n d).getD k []))≠0:=fun e=>by
    have:=cnF_nz hS (lA z (-1) ((rSt n d).getD k []))
    rw[h1,decide_eq_true e] at this
    cases this
  have ef:cnFst (cnRH n d) z (cnRH n d)=((rSt n d).getD k [],lA z (-1) ((rSt n d).getD k [])):=cnFst_at (rSt n d) hk (fun j hj=>hz0 (h0 j hj)) hz1
  have hp:=(cnCh (cnAll hS) hz).1
  have hta:=fun {x y:List Int} (h:Dec n d z x y)=>(tb_at hS h).1
  rw[ef] at hp
  simp only[ef] at hta
  generalize (rSt n d).getD k []=r at *
  have hrun:=cnRch_run hS (rt_in hs) (rt_in hr) hp
  have l1:=(root_get hS hz).1
  have l2:=(root_get hS hr).1
  refine⟨_,hr,hs,?_,hp,hrun.1,hrun.2,fun {x y} hx hy e=>?_⟩
  · rw[sP_lA (by omega)]
    omega
  · have hD:Dec n d z x y:=by
      have:=dec_of hS hx hy (by rw[e];exact hz)
      rwa [e] at this
    have hsx:=sP_root hS hx
    have hsy:=sP_root hS hy
    rw[nF_pp hS (by rw[e];exact rt_in hz) (by omega) (by omega),e,hta hD,cnE,lq_eq,lq_eq,rcL_eq,rcL_eq,cnSh_un hS,cnSh_un hS]
    by_cases e1:x=r
    · simp[e1]
    · by_cases e2:y=r
      · simp[e1,e2]
      · simp[e1,e2]
def KpOk (n:Int)(d:List Int)(kv:List ((List Int × List Int) × Int)):Prop:=∀ x y v,alu (x,y) kv=some v→v=nF n d x y
theorem KpOk.nil:KpOk n d []:=fun x y v h=>by cases h
theorem KpOk.get {kv:List ((List Int × List Int) × Int)}(h:KpOk n d kv){x y:List Int}(hs:(alu (x,y) kv).isSome=true):(alu (x,y) kv).getD 0=nF n d x y:=by
  obtain⟨v,hv⟩:=Option.isSome_iff_exists.1 hs
  rw[hv]
  exact h x y v hv
theorem KpOk.up {kv:List ((List Int × List Int) × Int)}(h:KpOk n d kv){x y:List Int}{v:Int}(hv:v=nF n d x y):KpOk n d (aup (x,y) v kv):=fun x' y' v' h'=>by
  rw[alu_aup] at h'
  split at h'
  · rename_i e
    cases e
    cases h'
    exact hv
  · exact h x' y' v' h'
def MmOk (n:Int)(d:List Int)(ds:List Bool)(vs:List Int):Prop:=ds.length=(rSt n d).length*(rSt n d).length∧vs.length=(rSt n d).length*(rSt n d).length ∧
  ∀ i j,i<(rSt n d).length→j<(rSt n d).length→ds.getD (i*(rSt n d).length+j) false=true→vs.getD (i*(rSt n d).length+j) 0=nF n d ((rSt n d).getD i []) ((rSt n d).getD j [])
theorem pair_lt {m i j:Nat}(hi:i<m)(hj:j<m):i*m+j<m*m:=by
  have:(i+1)*m≤m*m:=Nat.mul_le_mul_right m hi
  rw[Nat.succ_mul] at this
  omega
theorem pair_inj {m i j i' j':Nat}(hj:j<m)(hj':j'<m)(h:i*m+j=i'*m+j'):i=i'∧j=j':=by
  have hi:i=i':=by
    have e1:(i*m+j) / m=i:=by rw[Nat.mul_comm,Nat.mul_add_div (by omega),Nat.div_eq_of_lt hj];omega
    have e2:(i'*m+j') / m=i':=by rw[Nat.mul_comm,Nat.mul_add_div (by omega),Nat.div_eq_of_lt hj'];omega
    rw[← e1,h,e2]
  subst hi
  exact⟨rfl,by omega⟩
theorem MmOk.set {ds:List Bool}{vs:List Int}(h:MmOk n d ds vs){i j:Nat}(hi:i<(rSt n d).length)(hj:j<(rSt n d).length){v:Int}(hv:v=nF n d ((rSt n d).getD i []) ((rSt n d).getD j [])):MmOk n d (ds.set (i*(rSt n d).length+j) true) (vs.set (i*(rSt n d).length+j) v):=by
  obtain⟨h1,h2,h3⟩:=h
  refine⟨by rw[List.length_set];exact h1,by rw[List.length_set];exact h2,fun i' j' hi' hj' h'=>?_⟩
  by_cases e:i*(rSt n d).length+j=i'*(rSt n d).length+j'
  · obtain⟨rfl,rfl⟩:=pair_inj hj hj' e
    have:=pair_lt hi hj
    rw[← hv]
    simp[List.getD,show i*(rSt n d).length+j<vs.length by omega]
  · have e1:(ds.set (i*(rSt n d).length+j) true).getD (i'*(rSt n d).length+j') false=ds.getD (i'*(rSt n d).length+j') false:=by simp[List.getD,List.getElem?_set_ne e]
    have e2:(vs.set (i*(rSt n d).length+j) v).getD (i'*(rSt n d).length+j') 0=vs.getD (i'*(rSt n d).length+j') 0:=by simp[List.getD,List.getElem?_set_ne e]
    rw[e2]
    exact h3 i' j' hi' hj' (e1.symm.trans h')
theorem pl_root {L:List (List Int)}{x:List Int}(hx:x∈L):(plF L x).toNat<L.length∧L.getD (plF L x).toNat []=x∧0≤plF L x:=by
  have h0:=plF_c (contains_mem.2 hx)
  unfold plF posF at h0 ⊢
  split at h0
  · rename_i i hi
    obtain⟨h1,h2,_⟩:=List.findIdx?_eq_some_iff_getElem.1 hi
    have e:L.getD i []=L[i]:=by simp[List.getD,h1]
    refine⟨by simpa using h1,?_,by simp⟩
    rw[show ((i:Nat):Int).toNat=i by omega,e]
    exact(of_decide_eq_true (by simpa [samB_eq] using h2):x=L[i]).symm
  · omega
def hfP (n:Int)(d:List Int)(p:Nat):List (List Int × Int):=(List.range p).foldl (fun l i=>aup ((rSt n d).getD i []) (hfF n d ((rSt n d).getD i [])) l) []
theorem hfP_succ (p:Nat):hfP n d (p+1)=aup ((rSt n d).getD p []) (hfF n d ((rSt n d).getD p [])) (hfP n d p):=by rw[hfP,foldl_succ];rfl
def hfK (n:Int)(d:List Int):List (List Int × Int):=hfP n d (rSt n d).length
theorem alu_hfP (x:List Int):∀ p:Nat,p≤(rSt n d).length→alu x (hfP n d p)=if ((rSt n d).take p).contains x then some (hfF n d x) else none
  | 0,_=>by simp[hfP,alu]
  | p+1,hp=>by
    rw[hfP_succ,alu_aup,alu_hfP x p (by omega),takeD_snoc (d:=[]) (by omega)]
    by_cases e:x=(rSt n d).getD p []
    · rw[if_pos e,if_pos (by simp[e]),← e]
    · rw[if_neg e]
      have e2:((rSt n d).take p++[(rSt n d).getD p []]).contains x=((rSt n d).take p).contains x:=by
        rw[Bool.eq_iff_iff]
        simp only[List.contains_iff_mem,List.mem_append,List.mem_singleton]
        exact⟨fun h=>h.resolve_right e,.inl⟩
      rw[e2]
theorem hfK_get (hS:(tyS n d).isSome=true){x:List Int}(hx:x∈rSt n d):(alu x (hfK n d)).getD 0=hn n d x:=by
  rw[hfK,alu_hfP x _ (Nat.le_refl _),List.take_length,if_pos (contains_mem.2 hx),← hf_of hS (rt_in hx)]
  rfl
end
end Go.Proofs.YtbmnnbglipkidaaGreatDoor
