/-
  Regions that leave their order open: each operation ahead of the tail is shown for itself, out of the values that it reads; then it holds in every order.
-/
import Derived.Test.YtbmnnbglipkidaaGreatDoorOps
namespace Go.Proofs.YtbmnnbglipkidaaGreatDoor
set_option linter.unusedVariables false
set_option linter.unusedSimpArgs false
open Go.RowKit
structure PIt where
  dst:Nat
  deps:List (Nat × Nat)
  rdeps:List Nat
  eats:List Nat
  nd:List Nat
  val:List (List Value)→Value
  psi:List (List Value)→Prop
  res:List (List Value)→List Asn
def PIt.left (t:PIt):List Nat:=t.rdeps.filter fun k => !(t.eats.any (Nat.beq k))
def PIt.V (t:PIt)(θ:Nat→List Value):Value:=t.val (t.nd.map θ)
def PIt.O (t:PIt)(θ:Nat→List Value):Prop:=t.psi (t.nd.map θ)
def PIt.R (t:PIt)(θ:Nat→List Value):List Asn:=t.res (t.nd.map θ)
def upd (θ:Nat→List Value)(i:Nat)(g:List Value):Nat→List Value:=fun j=>bif Nat.beq j i then g else θ j
theorem R0 {θ:Nat→List Value}{i j:Nat}{g:List Value}(h:j≠i):upd θ i g j=θ j:=by
  have:Nat.beq j i=false:=Dr h
  simp[upd,this]
theorem Mw {θ:Nat→List Value}{i:Nat}{g:List Value}{nd:List Nat}(h:i ∉ nd):nd.map (upd θ i g)=nd.map θ :=
  List.map_congr_left fun j hj=>R0 fun e=>h (e ▸ hj)
theorem PIt.V_upd {t:PIt}{θ:Nat→List Value}{i:Nat}{g:List Value}(h:i ∉ t.nd):t.V (upd θ i g)=t.V θ:=by simp only[PIt.V,Mw h]
theorem PIt.O_upd {t:PIt}{θ:Nat→List Value}{i:Nat}{g:List Value}(h:i ∉ t.nd):t.O (upd θ i g)=t.O θ:=by simp only[PIt.O,Mw h]
theorem PIt.R_upd {t:PIt}{θ:Nat→List Value}{i:Nat}{g:List Value}(h:i ∉ t.nd):t.R (upd θ i g)=t.R θ:=by simp only[PIt.R,Mw h]
def fZ (its:List PIt)(θ:Nat→List Value)(j:Nat):Value:=match its[j]? with | some t=>t.V θ | none=>undef
def PE (its:List PIt)(θ:Nat→List Value)(j:Nat):List Asn:=match its[j]? with | some t=>t.R θ | none=>[]
def gl (its:List PIt)(θ:Nat→List Value)(j:Nat):Prop:=match its[j]? with | some t=>t.O θ | none=>True
def CU (its:List PIt)(θ:Nat→List Value):List (Nat × Nat)→List (Nat × Value)
  | []=>[]
  | (j,s)::ds=>(s,fZ its θ j)::CU its θ ds
def B4 (its:List PIt)(θ:Nat→List Value):List Nat→List Asn
  | []=>[]
  | j::js=>PE its θ j++B4 its θ js
def KJ (its:List PIt)(θ:Nat→List Value):List (Nat × Nat)→Prop
  | []=>True
  | (j,_)::ds=>gl its θ j∧KJ its θ ds
def AR (P:Program)(l:List Oper)(o:Oper)(n:Nat)(env:List (Nat × Value))(W:World)(own:List Asn)(K:Value→List Asn→Prop):Prop :=
  ∀ (a:Act) (w:World) (next:Act→World→Prop) (Q:Exit→Act→World→Prop),Fr n env a→St W w own→(∀ v w' own',K v own'→St W w' own'→next (a.put o.dst v) w') →
    if Region.wanted o (yielded l.toArray a.tmps) then o.wp P a w next Q∨(o.asks P a w∧LetsOut Q) else next (a.put o.dst undef) w
section
variable {P:Program}{n:Nat}{env:List (Nat × Value)}{W:World}{own:List Asn}{l:List Oper}{o:Oper}{K:Value→List Asn→Prop}
theorem AR.plain (h:OG P o n env W own K)(hg:o.guard=none):AR P l o n env W own K:=fun a w next Q hf hs hk=>by
  rw[if_pos (by simp[Region.wanted,hg])]
  exact .inl (h a w next Q hf hs hk)
theorem AR.on {j s:Nat}{b:Bool}(h:OG P o n env W own K)(hg:o.guard=some (j,b))(hj:(l.toArray[j]?).bind (·.dst)=some s)(hb:lk s env=some (.bool b)):AR P l o n env W own K:=fun a w next Q hf hs hk=>by
  rw[if_pos (by simp only[Region.wanted,hg,yielded,hj];simp[hf.slot s _ hb])]
  exact .inl (h a w next Q hf hs hk)
theorem AR.off {j s:Nat}{b c:Bool}(h:K undef own)(hg:o.guard=some (j,b))(hj:(l.toArray[j]?).bind (·.dst)=some s)(hb:lk s env=some (.bool c))(hbc:(c==b)=false):AR P l o n env W own K:=fun a w next Q hf hs hk=>by
  rw[if_neg (by simp only[Region.wanted,hg,yielded,hj];simpa [hf.slot s _ hb] using hbc)]
  exact hk _ _ _ h hs
def As (P:Program)(l:List Oper)(its:List PIt)(n:Nat)(env:List (Nat × Value))(W:World)(own:List Asn):Nat→List PIt→List Oper→Prop
  | _,[],_=>True
  | _,_::_,[]=>False
  | i,t::ts,o::os=>(∀ (θ:Nat→List Value) (R:List Asn),KJ its θ t.deps →
      AR P l o n (CU its θ t.deps++env) W (B4 its θ t.rdeps++(own++R)) fun v own'=>∃ g:List Value,v=t.V (upd θ i g)∧t.O (upd θ i g)∧own'=t.R (upd θ i g)++(B4 its θ t.left++(own++R))) ∧
      As P l its n env W own (i+1) ts os
theorem As.get {its:List PIt}:∀ {ts:List PIt} {os:List Oper} {i k:Nat} {t:PIt},As P l its n env W own i ts os→ts[k]?=some t→∃ o,os[k]?=some o∧∀ (θ:Nat→List Value) (R:List Asn),KJ its θ t.deps →
      AR P l o n (CU its θ t.deps++env) W (B4 its θ t.rdeps++(own++R)) fun v own'=>∃ g:List Value,v=t.V (upd θ (i+k) g)∧t.O (upd θ (i+k) g)∧own'=t.R (upd θ (i+k) g)++(B4 its θ t.left++(own++R))
  | [],_,_,k,_,_,hk=>by simp at hk
  | _::_,[],_,_,_,h,_=>h.elim
  | t::ts,o::os,i,0,_,h,hk=>by
    simp at hk
    subst hk
    exact⟨o,by simp,h.1⟩
  | _::ts,_::os,i,k+1,t,h,hk=>by
    obtain⟨o,h1,h2⟩:=As.get (k:=k) h.2 (by simpa using hk)
    refine⟨o,by simpa using h1,fun θ R hd=>?_⟩
    have:=h2 θ R hd
    rwa [show i+1+k=i+(k+1) by omega] at this
end
def preB (o:Oper)(j:Nat):Bool:=o.after.toList.any fun e=>Region.binds .any e&&e.on==j
def E4 (l:List Oper):Nat→Nat→Nat→Bool
  | 0,_,_=>false
  | f+1,i,j=>match l[i]? with | some o=>o.after.toList.any fun e=>Region.binds .any e&&(e.on==j || E4 l f e.on j) | none=>false
theorem G4 {l:List Oper}{f i j:Nat}{o:Oper}(ho:l[i]?=some o)(h:E4 l (f+1) i j=true):∃ e∈o.after,Region.binds .any e=true∧(e.on=j∨E4 l f e.on j=true):=by
  rw[E4,ho] at h
  obtain⟨e,he,hb⟩:=List.any_eq_true.1 h
  simp only[Bool.and_eq_true,Bool.or_eq_true,beq_iff_eq] at hb
  exact⟨e,by simpa using he,hb⟩
theorem Mh {l:List Oper}{f i j:Nat}(h:E4 l f i j=true):∃ o,l[i]?=some o:=by
  cases f with
  | zero=>cases h
  | succ f =>
    cases ho:l[i]? with
    | none =>
      rw[E4,ho] at h
      cases h
    | some o=>exact⟨o,rfl⟩
theorem QX {l:List Oper}(hA:∀ (i:Nat) (o:Oper),l[i]?=some o→∀ e∈o.after,e.on<i){j:Nat}:∀ (f i:Nat),E4 l f i j=true→j<i
  | 0,_,h=>by cases h
  | f+1,i,h=>by
    obtain⟨o,ho⟩:=Mh h
    obtain⟨e,he,_,h1⟩:=G4 ho h
    have hlt:=hA i o ho e he
    rcases h1 with h1 | h1
    · omega
    · have:=QX hA f e.on h1
      omega
theorem HC {l:List Oper}{listed:Array Bool}(hcl:∀ (k:Nat) (o:Oper),l[k]?=some o→listed.getD k false=true→∀ e∈o.after,Region.binds .any e=true→listed.getD e.on false=true){j:Nat} :
    ∀ (f i:Nat) (o:Oper),l[i]?=some o→(∀ e∈o.after,Region.binds .any e=true→listed.getD e.on false=true)→E4 l f i j=true→listed.getD j false=true
  | 0,_,_,_,_,h=>by cases h
  | f+1,i,o,ho,hd,h=>by
    obtain⟨e,he,hb,h1⟩:=G4 ho h
    have hl:=hd e he hb
    rcases h1 with h1 | h1
    · rw[← h1]
      exact hl
    · obtain⟨o2,ho2⟩:=Mh h1
      exact HC hcl f e.on o2 ho2 (hcl e.on o2 ho2 hl) h1
def gF (n:Nat)(l:List Oper)(its:List PIt)(env:List (Nat × Value))(i:Nat)(t:PIt):Bool :=
  match l[i]? with
  | none=>false
  | some o=>o.dst==some t.dst&&Nat.blt t.dst n&&(lk t.dst env).isNone &&
      t.deps.all (fun p=>preB o p.1&&Nat.blt p.1 i&&(match its[p.1]? with | some u=>u.dst==p.2 | none=>false)) &&
      t.nd.all (fun k=>k==i || t.deps.any fun p=>p.1==k || (match its[p.1]? with | some u=>u.nd.contains k | none=>false)) &&
      t.rdeps.all (fun k=>t.deps.any fun p=>p.1==k || (match its[p.1]? with | some u=>u.nd.contains k | none=>false)) &&
      decide t.rdeps.Nodup&&t.eats.all fun k=>t.rdeps.any (Nat.beq k)
def T3 (its:List PIt):Bool:=(List.range its.length).all fun i=>(List.range its.length).all fun j=>Nat.beq i j || (match its[i]?,its[j]? with | some t,some u=>t.eats.all fun k => !(u.rdeps.any (Nat.beq k)) | _,_=>true)
def U1 (n:Nat)(l:List Oper)(its:List PIt)(env:List (Nat × Value)):Bool :=
  T3 its&&Nat.ble its.length l.length&&(List.range its.length).all (fun i=>match its[i]? with | some t=>gF n l its env i t | none=>false)&&decide (its.map (·.dst)).Nodup &&
  (List.range l.length).all (fun i=>match l[i]? with | some o=>o.after.toList.all (fun e=>Nat.blt e.on i)&&(Nat.blt i its.length || (List.range i).all (E4 l (i+1) i)) | none=>false)
structure ItOk (n:Nat)(l:List Oper)(its:List PIt)(env:List (Nat × Value))(i:Nat)(t:PIt)(o:Oper):Prop where
  dst:o.dst=some t.dst
  bd:t.dst<n
  env:lk t.dst env=none
  pre:∀ p∈t.deps,preB o p.1=true
  ulk:∀ p∈t.deps,∃ u,its[p.1]?=some u∧u.dst=p.2
  lt:∀ p∈t.deps,p.1<i
  nd:∀ k∈t.nd,k=i∨∃ p∈t.deps,p.1=k∨∃ u,its[p.1]?=some u∧k∈u.nd
  rd:∀ k∈t.rdeps,∃ p∈t.deps,p.1=k∨∃ u,its[p.1]?=some u∧k∈u.nd
  nodup:t.rdeps.Nodup
  eats:∀ k∈t.eats,k∈t.rdeps
theorem bJ {n:Nat}{l:List Oper}{its:List PIt}{env:List (Nat × Value)}{i:Nat}{t:PIt}(h:gF n l its env i t=true):∃ o,l[i]?=some o∧ItOk n l its env i t o:=by
  unfold gF at h
  split at h
  · simp at h
  · rename_i o ho
    simp only[Bool.and_eq_true,List.all_eq_true,decide_eq_true_eq,beq_iff_eq,Option.isNone_iff_eq_none] at h
    obtain⟨⟨⟨⟨⟨⟨⟨h1,h0⟩,h2⟩,h3⟩,h4⟩,h5⟩,h6⟩,h7⟩:=h
    have key:∀ k,(t.deps.any fun p=>p.1==k || (match its[p.1]? with | some u=>u.nd.contains k | none=>false))=true→∃ p∈t.deps,p.1=k∨∃ u,its[p.1]?=some u∧k∈u.nd:=by
      intro k hk
      obtain⟨p,hp,hq⟩:=List.any_eq_true.1 hk
      refine⟨p,hp,?_⟩
      simp only[Bool.or_eq_true,beq_iff_eq] at hq
      rcases hq with hq | hq
      · exact .inl hq
      · split at hq
        · rename_i u hu
          exact .inr ⟨u,hu,by simpa using hq⟩
        · simp at hq
    refine⟨o,ho,h1,Da h0,h2,fun p hp=>(h3 p hp).1.1,fun p hp=>?_,fun p hp=>Da (h3 p hp).1.2,fun k hk=>?_,fun k hk=>key k (h5 k hk),h6,fun k hk=>?_⟩
    · have:=(h3 p hp).2
      split at this
      · rename_i u hu
        exact⟨u,hu,by simpa using this⟩
      · simp at this
    · have:=h4 k hk
      simp only[Bool.or_eq_true,beq_iff_eq] at this
      rcases this with h | h
      · exact .inl h
      · exact .inr (key k h)
    · obtain⟨x,hx,he⟩:=List.any_eq_true.1 (h7 k hk)
      obtain rfl:=Nat.eq_of_beq_eq_true he
      exact hx
theorem Hj:∀ {A B:List Nat},A.Nodup→(∀ x∈A,x∈B)→∃ C,B.Perm (A++C)
  | [],B,_,_=>⟨B,by simp⟩
  | a::A,B,hn,hs=>by
    have ha:a∈B:=hs a (by simp)
    have hn':=List.nodup_cons.1 hn
    obtain⟨C,hC⟩:=Hj (A:=A) (B:=B.erase a) hn'.2 fun x hx=>by
      have:x≠a:=fun e=>hn'.1 (e ▸ hx)
      exact(List.mem_erase_of_ne this).2 (hs x (by simp[hx]))
    exact⟨C,(List.perm_cons_erase ha).trans (hC.cons a)⟩
theorem Dz (f:Nat→Bool)(i:Nat)(hf:f i=false):∀ (L:List Nat),L.Nodup→i∈L→(L.filter fun j=>f j || j==i).Perm (i::L.filter f)
  | [],_,h=>by simp at h
  | a::L,hn,h=>by
    have hn':=List.nodup_cons.1 hn
    by_cases e:a=i
    · subst e
      have:L.filter (fun j=>f j || j==a)=L.filter f:=by
        refine List.filter_congr fun x hx=>?_
        have:x≠a:=fun e=>hn'.1 (e ▸ hx)
        simp[this]
      simp[hf,this]
    · have hi:i∈L:=by
        rcases List.mem_cons.1 h with h | h
        · exact absurd h.symm e
        · exact h
      have ih:=Dz f i hf L hn'.2 hi
      by_cases hfa:f a=true
      · simp only[List.filter_cons,hfa,Bool.true_or,if_true]
        exact(ih.cons a).trans (List.Perm.swap _ _ _)
      · have hfa':f a=false:=by simpa using hfa
        simp only[List.filter_cons,hfa',Bool.false_or,beq_eq_false_iff_ne.2 e,Bool.false_eq_true,if_false]
        exact ih
theorem D0 {A B:List Nat}(h:A.Perm B)(f:Nat→List Asn):(A.flatMap f).Perm (B.flatMap f):=h.flatMap_right f
theorem KW {L:List Nat}{f g:Nat→List Asn}(h:∀ j∈L,f j=g j):L.flatMap f=L.flatMap g:=by
  induction L with
  | nil=>rfl
  | cons a L ih=>rw[List.flatMap_cons,List.flatMap_cons,h a (by simp),ih fun j hj=>h j (by simp[hj])]
theorem E9 (its:List PIt)(θ:Nat→List Value):∀ js:List Nat,B4 its θ js=js.flatMap (PE its θ)
  | []=>rfl
  | j::js=>by simp[B4,E9 its θ js]
def Uo (p:Nat)(listed:Array Bool):List Nat:=(List.range p).filter (listed.getD · false)
def Ck (its:List PIt)(i k:Nat):Bool:=match its[i]? with | some t=>t.eats.any (Nat.beq k) | none=>false
def DO (its:List PIt)(f:Nat→Bool)(k:Nat):Bool:=(List.range its.length).any fun i=>f i&&Ck its i k
def Xd (its:List PIt)(listed:Array Bool):List Nat:=(List.range its.length).filter fun j=>listed.getD j false && !(DO its (listed.getD · false) j)
section
variable {P:Program}{n:Nat}{env:List (Nat × Value)}{W:World}{own:List Asn}{l:List Oper}{its:List PIt}{Q:Exit→Act→World→Prop}
structure PInv (l:List Oper)(its:List PIt)(n:Nat)(env:List (Nat × Value))(W:World)(own:List Asn)(listed:Array Bool)(θ:Nat→List Value)(a:Act)(w:World):Prop where
  df:a.defers = []
  sz:a.tmps.size=n
  base:∀ s v,lk s env=some v→a.tmps[s]?=some v
  up:∀ (i:Nat) (t:PIt),its[i]?=some t→listed.getD i false=true→a.tmps[t.dst]?=some (t.V θ)∧t.O θ∧∀ k∈t.nd,k<its.length∧listed.getD k false=true
  rd:∀ (i:Nat) (t:PIt),its[i]?=some t→listed.getD i false=true→∀ k∈t.rdeps,listed.getD k false=true
  st:St W w ((Xd its listed).flatMap (PE its θ)++own)
  lsz:listed.size=l.length
  tail:∀ k,its.length≤k→listed.getD k false=false
  cl:∀ (k:Nat) (o:Oper),l[k]?=some o→listed.getD k false=true→∀ e∈o.after,Region.binds .any e=true→listed.getD e.on false=true
theorem CX {A:Array Bool}{i:Nat}(h:i<A.size)(d:Bool):(A.setIfInBounds i true).getD i d=true:=by simp[h]
theorem BL {A:Array Bool}{i j:Nat}(h:j≠i)(d:Bool):(A.setIfInBounds i true).getD j d=A.getD j d:=by
  simp[Ne.symm h]
theorem AO {A:Array Bool}{i:Nat}(h:i<A.size):A.getD i true=A.getD i false:=by simp[h]
theorem Kk (hA:∀ (i:Nat) (o:Oper),l[i]?=some o→∀ e∈o.after,e.on<i)(hB:∀ (i:Nat) (o:Oper),l[i]?=some o→its.length≤i→∀ j,j<i→E4 l (i+1) i j=true):∀ (m k:Nat) (listed:Array Bool) (a:Act) (w:World),k+m=l.length→its.length≤k→listed.size=l.length →
    (∀ j,j<k→listed.getD j false=true)→(∀ j,k≤j→listed.getD j false=false)→wpList P l.toArray Q (l.drop k) a w→wpAny P .any l.toArray Q m listed a w
  | 0,k,listed,a,w,hk,hp,hs,h1,h2,h=>by
    have hr:Region.ready .any l.toArray listed = []:=by
      unfold Region.ready
      rw[List.filter_eq_nil_iff]
      intro i hi
      have hil:i<l.length:=by simpa using hi
      have:listed.getD i true=true:=by rw[AO (by omega)];exact h1 i (by omega)
      simp[this]
    refine⟨hr,?_⟩
    rw[List.drop_eq_nil_of_le (by omega)] at h
    exact h
  | m+1,k,listed,a,w,hk,hp,hs,h1,h2,h=>by
    have hkl:k<l.length:=by omega
    obtain⟨o,ho⟩:∃ o,l[k]?=some o:=⟨l[k],List.getElem?_eq_getElem hkl⟩
    have hd:l.drop k=o::l.drop (k+1):=by
      rw[List.drop_eq_getElem_cons hkl]
      congr 1
      rw[List.getElem?_eq_getElem hkl] at ho
      exact Option.some.inj ho
    have ready_eq:∀ i∈Region.ready .any l.toArray listed,i=k:=by
      intro i hi
      obtain⟨hun,oi,hoi,hall⟩:=mem_ready.1 hi
      have hoi':l[i]?=some oi:=by simpa using hoi
      have hil:i<l.length:=(List.getElem?_eq_some_iff.1 hoi').1
      rw[AO (by omega)] at hun
      rcases Nat.lt_trichotomy i k with h | h | h
      · rw[h1 i h] at hun
        cases hun
      · exact h
      · have hpre:=hB i oi hoi' (by omega) k h
        obtain⟨e,he,hb,h3⟩:=G4 hoi' hpre
        have:=hall e he hb
        rcases h3 with h3 | h3
        · rw[h3,h2 k (Nat.le_refl _)] at this
          cases this
        · have hk3:=QX hA i e.on h3
          rw[h2 e.on (by omega)] at this
          cases this
    refine⟨fun h0=>?_,fun i hi=>?_⟩
    · exfalso
      have hmem:k∈Region.ready .any l.toArray listed:=by
        refine mem_ready.2 ⟨by rw[AO (by omega)];exact h2 k (Nat.le_refl _),o,by simpa using ho,fun e he hb=>h1 _ (hA k o ho e he)⟩
      rw[h0] at hmem
      cases hmem
    · obtain rfl:=ready_eq i hi
      rw[hd] at h
      unfold wpList at h
      unfold wpOp
      have ho':l.toArray[i]?=some o:=by simpa using ho
      simp only[ho']
      have ih:=fun a w=>Kk hA hB m (i+1) (listed.setIfInBounds i true) a w (by omega) (by omega) (by simpa using hs) (fun j hj=>by
        by_cases e:j=i
        · subst e;exact CX (by omega) _
        · rw[BL e];exact h1 j (by omega)) (fun j hj=>by rw[BL (by omega)];exact h2 j (by omega))
      split at h
      · rename_i hw
        rw[if_pos hw]
        exact h.imp (Oper.wp_mono ih) id
      · rename_i hw
        rw[if_neg hw]
        exact ih _ _ h
def Em (its:List PIt)(θ:Nat→List Value):Nat→List PIt→List (Nat × Value)
  | _,[]=>[]
  | i,t::ts=>(t.dst,t.V θ)::Em its θ (i+1) ts
def eatA (its:List PIt)(k:Nat):Bool:=its.any fun t=>t.eats.any (Nat.beq k)
def Ez (its:List PIt)(θ:Nat→List Value):Nat→List PIt→List Asn
  | _,[]=>[]
  | i,t::ts=>(bif eatA its i then[] else t.R θ)++Ez its θ (i+1) ts
def Km (θ:Nat→List Value):List PIt→Prop
  | []=>True
  | t::ts=>t.O θ∧Km θ ts
theorem Ot {θ:Nat→List Value}:∀ {ts:List PIt},(∀ (i:Nat) (t:PIt),ts[i]?=some t→t.O θ)→Km θ ts
  | [],_=>trivial
  | t::ts,h=>⟨h 0 t (by simp),Ot fun i u hu=>h (i+1) u (by simpa using hu)⟩
theorem Lu {θ:Nat→List Value}:∀ (ts:List PIt) (k:Nat) (f:Nat→List Asn),(∀ (i:Nat) (t:PIt),ts[i]?=some t→f (k+i)=t.R θ)→((List.range' k ts.length).filter fun j => !(eatA its j)).flatMap f=Ez its θ k ts
  | [],_,_,_=>by simp[Ez]
  | t::ts,k,f,h=>by
    have h0:=h 0 t (by simp)
    simp only[Nat.add_zero] at h0
    have ih:=Lu ts (k+1) f fun i u hu=>by
      have:=h (i+1) u (by simpa using hu)
      rwa [show k+1+i=k+(i+1) by omega]
    rw[List.length_cons,List.range'_succ,List.filter_cons,Ez]
    cases eatA its k with
    | true=>simpa using ih
    | false=>simp[h0,ih]
theorem Sx {f:Nat→Bool}(h:∀ i,i<its.length→f i=true)(k:Nat):DO its f k=eatA its k:=by
  unfold DO eatA
  rw[Bool.eq_iff_iff,List.any_eq_true,List.any_eq_true]
  constructor
  · rintro⟨i,hi,he⟩
    simp only[Bool.and_eq_true,Ck] at he
    split at he
    · rename_i t ht
      exact⟨t,List.mem_of_getElem? ht,he.2⟩
    · simp at he
  · rintro⟨t,ht,he⟩
    obtain⟨i,hi,rfl⟩:=List.mem_iff_getElem.1 ht
    exact⟨i,by simpa using hi,by simp[h i hi,Ck,hi,he]⟩
theorem lk_append {s:Nat}:∀ (A B:List (Nat × Value)) (v:Value),lk s (A++B)=some v→lk s A=some v∨lk s B=some v
  | [],B,v,h => .inr h
  | (k,u)::A,B,v,h=>by
    simp only[List.cons_append,lk] at h ⊢
    by_cases e:s=k
    · subst e
      simp at h ⊢
      exact .inl h
    · have e':Nat.beq s k=false:=Dr e
      simp only[e',cond_false] at h ⊢
      exact lk_append A B v h
theorem Lz {θ:Nat→List Value}{s:Nat}{v:Value}:∀ {ts:List PIt} {k:Nat},lk s (Em its θ k ts)=some v→∃ (i:Nat) (t:PIt),ts[i]?=some t∧t.dst=s∧v=t.V θ
  | [],_,h=>by simp[Em,lk] at h
  | t::ts,k,h=>by
    simp only[Em,lk] at h
    by_cases e:s=t.dst
    · subst e
      simp at h
      exact⟨0,t,by simp,rfl,h.symm⟩
    · have e':Nat.beq s t.dst=false:=Dr e
      simp only[e',cond_false] at h
      obtain⟨i,u,h1,h2,h3⟩:=Lz h
      exact⟨i+1,u,by simpa using h1,h2,h3⟩
theorem LR {θ:Nat→List Value}{s:Nat}{v:Value}:∀ {ds:List (Nat × Nat)},lk s (CU its θ ds)=some v→∃ p∈ds,p.2=s∧v=fZ its θ p.1
  | [],h=>by simp[CU,lk] at h
  | (j,r)::ds,h=>by
    simp only[CU,lk] at h
    by_cases e:s=r
    · subst e
      simp at h
      exact⟨(j,s),by simp,rfl,h.symm⟩
    · have e':Nat.beq s r=false:=Dr e
      simp only[e',cond_false] at h
      obtain⟨p,h1,h2,h3⟩:=LR h
      exact⟨p,by simp[h1],h2,h3⟩
theorem Oz {θ:Nat→List Value}:∀ {ds:List (Nat × Nat)},(∀ p∈ds,gl its θ p.1)→KJ its θ ds
  | [],_=>trivial
  | (j,r)::ds,h=>⟨h (j,r) (by simp),Oz fun p hp=>h p (by simp[hp])⟩
theorem Su (hA:∀ (i:Nat) (o:Oper),l[i]?=some o→∀ e∈o.after,e.on<i)(hB:∀ (i:Nat) (o:Oper),l[i]?=some o→its.length≤i→∀ j,j<i→E4 l (i+1) i j=true)(hle:its.length≤l.length)
    (hok:∀ (i:Nat) (t:PIt),its[i]?=some t→∃ o,l[i]?=some o∧ItOk n l its env i t o) (hnd:(its.map (·.dst)).Nodup) (hop:As P l its n env W own 0 its l)
    (hE:∀ (i j:Nat) (t u:PIt),its[i]?=some t→its[j]?=some u→i≠j→∀ k∈t.eats,k ∉ u.rdeps)
    (hrest:∀ θ,Km θ its→G P l.toArray Q (l.drop its.length) n (Em its θ 0 its++env) W (Ez its θ 0 its++own)) :
    ∀ (m:Nat) (listed:Array Bool) (θ:Nat→List Value) (a:Act) (w:World),(Uo its.length listed).length+m=l.length→PInv l its n env W own listed θ a w→wpAny P .any l.toArray Q m listed a w:=by
  -- all that lies ahead of the tail has come up
  have fin:∀ (m:Nat) (listed:Array Bool) (θ:Nat→List Value) (a:Act) (w:World),its.length+m=l.length→(∀ j,j<its.length→listed.getD j false=true)→PInv l its n env W own listed θ a w→wpAny P .any l.toArray Q m listed a w:=by
    intro m listed θ a w hm hall hI
    refine Kk hA hB m its.length listed a w hm (Nat.le_refl _) hI.lsz hall hI.tail ?_
    have hup:Xd its listed=(List.range its.length).filter fun j => !(eatA its j):=List.filter_congr fun j hj=>by rw[hall j (by simpa using hj),Sx hall,Bool.true_and]
    refine hrest θ (Ot fun i t ht=>(hI.up i t ht (hall i (List.getElem?_eq_some_iff.1 ht).1)).2.1) a w ⟨hI.df,hI.sz,fun s v hl=>?_⟩ ?_
    · rcases lk_append _ _ _ hl with h | h
      · obtain⟨i,t,h1,h2,h3⟩:=Lz (its:=its) h
        have:=(hI.up i t h1 (hall i (List.getElem?_eq_some_iff.1 h1).1)).1
        rw[← h2,h3]
        exact this
      · exact hI.base s v h
    · have:=hI.st
      rw[hup,List.range_eq_range',Lu (its:=its) (θ:=θ) its 0 (PE its θ) fun i t ht=>by simp[PE,ht]] at this
      exact this
  intro m
  induction m with
  | zero =>
    intro listed θ a w hm hI
    have h1:(Uo its.length listed).length≤its.length:=by
      have:=List.length_filter_le (listed.getD · false) (List.range its.length)
      simpa [Uo] using this
    have h2:Uo its.length listed=List.range its.length:=by
      refine List.filter_eq_self.2 fun j hj=>?_
      have:(Uo its.length listed).length=(List.range its.length).length:=by simp;omega
      exact(List.length_filter_eq_length_iff.1 this) j hj
    have hall:∀ j,j<its.length→listed.getD j false=true:=fun j hj=>by
      have:j∈Uo its.length listed:=by rw[h2];simpa using hj
      exact(List.mem_filter.1 this).2
    exact fin 0 listed θ a w (by omega) hall hI
  | succ m ih =>
    intro listed θ a w hm hI
    by_cases hallq:∀ j,j<its.length→listed.getD j false=true
    · have h2:Uo its.length listed=List.range its.length:=List.filter_eq_self.2 fun j hj=>hallq j (by simpa using hj)
      rw[h2] at hm
      exact fin (m+1) listed θ a w (by simpa using hm) hallq hI
    · -- something ahead of the tail is still to come
      have hex:∃ j,j<its.length∧listed.getD j false=false:=by
        refine Classical.byContradiction fun hn=>hallq fun j hj=>?_
        cases hb:listed.getD j false
        · exact absurd ⟨j,hj,hb⟩ hn
        · rfl
      refine⟨fun h0=>?_,fun i hi=>?_⟩
      · exfalso
        -- the least of what is to come is ready
        obtain⟨j,hj,hjf⟩:=hex
        have key:∀ k j,j<k→j<its.length→listed.getD j false=false→False:=by
          intro k
          induction k with
          | zero=>intro j h;omega
          | succ k ihk =>
            intro j hjk hjp hjf
            obtain⟨o,ho⟩:∃ o,l[j]?=some o:=⟨l[j]'(by omega),List.getElem?_eq_getElem (by omega)⟩
            have hmem:j∈Region.ready .any l.toArray listed:=by
              refine mem_ready.2 ⟨by rw[AO (by rw[hI.lsz];omega)];exact hjf,o,by simpa using ho,fun e he hb=>?_⟩
              have hlt:=hA j o ho e he
              cases hq:listed.getD e.on false
              · exact(ihk e.on (by omega) (by omega) hq).elim
              · rfl
            rw[h0] at hmem
            cases hmem
        exact key (j+1) j (by omega) hj hjf
      · obtain⟨hun,oi,hoi,hafter⟩:=mem_ready.1 hi
        have hoi':l[i]?=some oi:=by simpa using hoi
        have hil:i<l.length:=(List.getElem?_eq_some_iff.1 hoi').1
        rw[AO (by rw[hI.lsz];omega)] at hun
        have hip:i<its.length:=by
          rcases Nat.lt_or_ge i its.length with h | h
          · exact h
          · exfalso
            obtain⟨j,hj,hjf⟩:=hex
            have:=HC hI.cl (i+1) i oi hoi' hafter (hB i oi hoi' h j (by omega))
            rw[hjf] at this
            cases this
        obtain⟨t,ht⟩:∃ t,its[i]?=some t:=⟨its[i],List.getElem?_eq_getElem hip⟩
        obtain⟨o',ho',hk⟩:=hok i t ht
        obtain rfl:oi=o':=Option.some.inj (hoi'.symm.trans ho')
        obtain⟨o'',ho'',hP⟩:=hop.get ht
        obtain rfl:oi=o'':=Option.some.inj (hoi'.symm.trans ho'')
        simp only[Nat.zero_add] at hP
        -- what it waits for has come up
        have hdep:∀ p∈t.deps,listed.getD p.1 false=true:=fun p hp=>by
          obtain⟨e,he',hbe⟩:=List.any_eq_true.1 (hk.pre p hp)
          simp only[Bool.and_eq_true,beq_iff_eq] at hbe
          have he:e∈oi.after:=by simpa using he'
          have:=hafter e he hbe.1
          rwa [hbe.2] at this
        have hlook:∀ k,(∃ p∈t.deps,p.1=k∨∃ u,its[p.1]?=some u∧k∈u.nd)→k<its.length∧listed.getD k false=true:=by
          rintro k ⟨p,hp,h | ⟨u,hu,hku⟩⟩
          · subst h
            exact⟨by have:=hk.lt p hp;omega,hdep p hp⟩
          · exact(hI.up p.1 u hu (hdep p hp)).2.2 k hku
        have hndi:∀ k∈t.nd,k=i∨(k<its.length∧listed.getD k false=true):=fun k hkn=>(hk.nd k hkn).imp id (hlook k)
        -- ghosts of what has come up do not speak of i
        have hfree:∀ j u,its[j]?=some u→listed.getD j false=true→i ∉ u.nd:=fun j u hu hl hmem=>by
          have:=((hI.up j u hu hl).2.2 i hmem).2
          rw[hun] at this
          cases this
        have hnot:∀ x∈t.rdeps,DO its (listed.getD · false) x=false:=fun x hx=>by
          cases he:DO its (listed.getD · false) x with
          | false=>rfl
          | true =>
            obtain⟨j,hj,hjx⟩:=List.any_eq_true.1 he
            simp only[Bool.and_eq_true,Ck] at hjx
            split at hjx
            · rename_i u hu
              have hji:j≠i:=fun e=>by
                have:=hjx.1
                rw[e,hun] at this
                cases this
              obtain⟨y,hy,hxy⟩:=List.any_eq_true.1 hjx.2
              obtain rfl:=Nat.eq_of_beq_eq_true hxy
              exact absurd hx (hE j i u t hu ht hji x hy)
            · simp at hjx
        have hsub:∀ x∈t.rdeps,x∈Xd its listed:=fun x hx=>by
          obtain⟨h1,h2⟩:=hlook x (hk.rd x hx)
          exact List.mem_filter.2 ⟨by simpa using h1,by rw[h2,hnot x hx];rfl⟩
        have hrdl:∀ x∈t.rdeps,listed.getD x false=true:=fun x hx=>(hlook x (hk.rd x hx)).2
        have heq:∀ k,Ck its i k=t.eats.any (Nat.beq k):=fun k=>by simp only[Ck,ht]
        have heat:∀ k,Ck its i k=true→k∈t.rdeps:=fun k hk'=>by
          rw[heq] at hk'
          obtain⟨y,hy,hxy⟩:=List.any_eq_true.1 hk'
          obtain rfl:=Nat.eq_of_beq_eq_true hxy
          exact hk.eats _ hy
        obtain⟨C,hC⟩:=Hj hk.nodup hsub
        have hst:St W w (B4 its θ t.rdeps++(own++C.flatMap (PE its θ))):=by
          refine hI.st.perm ?_
          have h1:=D0 hC (PE its θ)
          rw[List.flatMap_append,← E9 its θ t.rdeps] at h1
          refine(h1.append_right own).trans ?_
          rw[List.append_assoc]
          exact(List.perm_append_comm).append_left _
        have hfr:Fr n (CU its θ t.deps++env) a:=⟨hI.df,hI.sz,fun s v hl=>by
          rcases lk_append _ _ _ hl with h | h
          · obtain⟨p,hp,h1,h2⟩:=LR h
            obtain⟨u,hu,hus⟩:=hk.ulk p hp
            have:=(hI.up p.1 u hu (hdep p hp)).1
            rw[h2,← h1,← hus]
            simp only[fZ,hu]
            exact this
          · exact hI.base s v h⟩
        have hdok:KJ its θ t.deps:=Oz fun p hp=>by
          obtain⟨u,hu,_⟩:=hk.ulk p hp
          simp only[gl,hu]
          exact(hI.up p.1 u hu (hdep p hp)).2.1
        have goal:=hP θ (C.flatMap (PE its θ)) hdok a w (wpAny P .any l.toArray Q m (listed.setIfInBounds i true)) Q hfr hst fun v w' own' ⟨g,hv,hO,hown⟩ hs'=>by
          have hset:∀ j,j≠i→(listed.setIfInBounds i true).getD j false=listed.getD j false:=fun j hj=>BL hj _
          have hself:(listed.setIfInBounds i true).getD i false=true:=CX (by rw[hI.lsz];omega) _
          have hdlt:t.dst<a.tmps.size∨a.tmps.size≤t.dst:=Nat.lt_or_ge _ _
          have hkeep:∀ j,DO its ((listed.setIfInBounds i true).getD · false) j=(DO its (listed.getD · false) j || Ck its i j):=fun j=>by
            rw[Bool.eq_iff_iff]
            simp only[DO,Bool.or_eq_true,List.any_eq_true,Bool.and_eq_true,List.mem_range]
            constructor
            · rintro⟨e,he,h1,h2⟩
              by_cases hei:e=i
              · subst hei;exact .inr h2
              · rw[hset e hei] at h1;exact .inl ⟨e,he,h1,h2⟩
            · rintro(⟨e,he,h1,h2⟩ | h2)
              · by_cases hei:e=i
                · subst hei;exact⟨e,he,hself,h2⟩
                · exact⟨e,he,by rw[hset e hei];exact h1,h2⟩
              · exact⟨i,hip,hself,h2⟩
          have hi0:DO its ((listed.setIfInBounds i true).getD · false) i=false:=by
            rw[hkeep]
            have h1:Ck its i i=false:=by
              cases he:Ck its i i with
              | false=>rfl
              | true =>
                have:=hrdl i (heat i he)
                rw[hun] at this
                cases this
            rw[h1,Bool.or_false]
            cases he:DO its (listed.getD · false) i with
            | false=>rfl
            | true =>
              obtain⟨j,hj,hjx⟩:=List.any_eq_true.1 he
              simp only[Bool.and_eq_true,Ck] at hjx
              split at hjx
              · rename_i u hu
                obtain⟨y,hy,hxy⟩:=List.any_eq_true.1 hjx.2
                obtain rfl:=Nat.eq_of_beq_eq_true hxy
                obtain⟨o2,ho2,hk2⟩:=hok j u hu
                have:=hI.rd j u hu hjx.1 i (hk2.eats i hy)
                rw[hun] at this
                cases this
              · simp at hjx
          have hAperm:(Xd its (listed.setIfInBounds i true)).Perm (i::(Xd its listed).filter fun k => !(Ck its i k)):=by
            have e:Xd its (listed.setIfInBounds i true)=(List.range its.length).filter fun j=>((listed.getD j false && !(DO its (listed.getD · false) j)) && !(Ck its i j)) || j==i:=by
              refine List.filter_congr fun j hj=>?_
              by_cases e:j=i
              · subst e;rw[hself,hi0];simp
              · rw[hset j e,hkeep];simp[e,Bool.and_assoc]
            rw[e]
            refine(Dz (fun j=>(listed.getD j false && !(DO its (listed.getD · false) j)) && !(Ck its i j)) i (by simp[hun]) _ List.nodup_range (by simpa using hip)).trans ?_
            rw[Xd,List.filter_filter]
            refine List.Perm.cons _ ?_
            rw[show (fun j=>(listed.getD j false && !(DO its (listed.getD · false) j)) && !(Ck its i j))=fun j => !(Ck its i j)&&(listed.getD j false && !(DO its (listed.getD · false) j)) from funext fun j=>Bool.and_comm _ _]
          have hCf:C.filter (fun k => !(Ck its i k))=C:=by
            refine List.filter_eq_self.2 fun k hkC=>?_
            cases he:Ck its i k with
            | false=>rfl
            | true =>
              have hnd2:(t.rdeps++C).Nodup:=hC.nodup_iff.1 (List.nodup_range.filter _)
              exact absurd rfl ((List.nodup_append.1 hnd2).2.2 k (heat k he) k hkC)
          have hupperm:(Uo its.length (listed.setIfInBounds i true)).Perm (i::Uo its.length listed):=by
            have e:Uo its.length (listed.setIfInBounds i true)=(List.range its.length).filter fun j=>listed.getD j false || j==i:=by
              refine List.filter_congr fun j hj=>?_
              by_cases e:j=i
              · subst e;simp[hself]
              · simp[hset j e,e]
            rw[e]
            exact Dz _ i hun _ List.nodup_range (by simpa using hip)
          refine ih (listed.setIfInBounds i true) (upd θ i g) _ _ ?_ ⟨by simp only[Act.put,hk.dst];exact hI.df,by simp[Act.put,hk.dst,hI.sz],fun s u hl=>?_,fun j u hu hl=>?_,fun j u hu hl k hkr=>?_,?_,by simpa using hI.lsz,fun k hkk=>?_,fun k o2 ho2 hk2 e he hb=>?_⟩
          · rw[hupperm.length_eq]
            simp only[List.length_cons]
            omega
          · have hne:t.dst≠s:=fun e=>by
              have:=hk.env
              rw[e,hl] at this
              cases this
            simp only[Act.put,hk.dst]
            rw[Array.getElem?_setIfInBounds_ne hne]
            exact hI.base s u hl
          · by_cases e:j=i
            · subst e
              obtain rfl:t=u:=Option.some.inj (ht.symm.trans hu)
              refine⟨?_,hO,fun k hkn=>?_⟩
              · have hbd:=hk.bd
                rw[hv]
                simp[Act.put,hk.dst,hI.sz,hbd]
              · rcases hndi k hkn with h | ⟨h1,h2⟩
                · subst h;exact⟨hip,hself⟩
                · by_cases e:k=j
                  · subst e;exact⟨hip,hself⟩
                  · exact⟨h1,by rw[hset k e];exact h2⟩
            · rw[hset j e] at hl
              obtain⟨h1,h2,h3⟩:=hI.up j u hu hl
              have hf:=hfree j u hu hl
              refine⟨?_,by rw[PIt.O_upd hf];exact h2,fun k hkn=>?_⟩
              · have hne:t.dst≠u.dst:=fun e'=>by
                  have hj:=(List.getElem?_eq_some_iff.1 hu).1
                  have:=(List.getElem?_inj (l:=its.map (·.dst)) (i:=i) (j:=j) (by simpa using hip) hnd).1 (by simp[ht,hu,e'])
                  exact e this.symm
                simp only[Act.put,hk.dst]
                rw[Array.getElem?_setIfInBounds_ne hne,PIt.V_upd hf]
                exact h1
              · obtain⟨h4,h5⟩:=h3 k hkn
                refine⟨h4,?_⟩
                by_cases e:k=i
                · subst e;exact hself
                · rw[hset k e];exact h5
          · by_cases e:j=i
            · subst e
              obtain rfl:t=u:=Option.some.inj (ht.symm.trans hu)
              by_cases e2:k=j
              · subst e2;exact hself
              · rw[hset k e2];exact hrdl k hkr
            · rw[hset j e] at hl
              have:=hI.rd j u hu hl k hkr
              by_cases e2:k=i
              · subst e2;exact hself
              · rw[hset k e2];exact this
          · rw[hown] at hs'
            refine hs'.perm ?_
            have h1:=D0 hAperm (PE its (upd θ i g))
            have h2:PE its (upd θ i g) i=t.R (upd θ i g):=by simp[PE,ht]
            have h3:((Xd its listed).filter fun k => !(Ck its i k)).flatMap (PE its (upd θ i g))=((Xd its listed).filter fun k => !(Ck its i k)).flatMap (PE its θ):=by
              refine KW fun j hj=>?_
              have hj':=(List.mem_filter.1 (List.mem_filter.1 hj).1)
              have hl:listed.getD j false=true:=by
                have:=hj'.2
                simp only[Bool.and_eq_true] at this
                exact this.1
              have hjl:j<its.length:=by simpa using hj'.1
              obtain⟨u,hu⟩:∃ u,its[j]?=some u:=⟨its[j],List.getElem?_eq_getElem hjl⟩
              simp only[PE,hu]
              exact PIt.R_upd (hfree j u hu hl)
            rw[List.flatMap_cons,h2,h3] at h1
            have hleft:t.rdeps.filter (fun k => !(Ck its i k))=t.left:=by
              unfold PIt.left
              refine List.filter_congr fun k _=>by rw[heq]
            have h4:=D0 (hC.filter fun k => !(Ck its i k)) (PE its θ)
            rw[List.filter_append,hCf,hleft,List.flatMap_append,← E9 its θ t.left] at h4
            refine List.Perm.symm ((h1.append_right own).trans ?_)
            rw[List.append_assoc]
            refine List.Perm.append_left _ ?_
            refine(h4.append_right own).trans ?_
            rw[List.append_assoc]
            exact(List.perm_append_comm).append_left _
          · have:k≠i:=by omega
            rw[hset k this]
            exact hI.tail k hkk
          · have hl:listed.getD e.on false=true:=by
              by_cases e2:k=i
              · subst e2
                obtain rfl:oi=o2:=Option.some.inj (hoi'.symm.trans ho2)
                exact hafter e he hb
              · rw[hset k e2] at hk2
                exact hI.cl k o2 ho2 hk2 e he hb
            by_cases e3:e.on=i
            · rw[e3]
              exact hself
            · rw[hset e.on e3]
              exact hl
        unfold wpOp
        simp only[hoi]
        exact goal
theorem CM (m k:Nat):(Array.replicate m false).getD k false=false:=by
  by_cases h:k<m <;> simp[h]
theorem Qu {its:List PIt}(hpar:U1 n l its env=true)(hop:As P l its n env W own 0 its l)
    (hrest:∀ θ,Km θ its→G P l.toArray Q (l.drop its.length) n (Em its θ 0 its++env) W (Ez its θ 0 its++own)):∀ (a:Act) (w:World),Fr n env a→St W w own→wpAny P .any l.toArray Q l.toArray.size (Array.replicate l.toArray.size false) a { w with drawn:=w.drawn+1 }:=fun a w hf hs=>by
  simp only[U1,Bool.and_eq_true,List.all_eq_true,decide_eq_true_eq] at hpar
  obtain⟨⟨⟨⟨h0,h1⟩,h2⟩,h3⟩,h4⟩:=hpar
  have hle:=Nat.le_of_ble_eq_true h1
  have h4':∀ i o,l[i]?=some o→(∀ e∈o.after,e.on<i)∧(its.length≤i→∀ j,j<i→E4 l (i+1) i j=true):=fun i o ho=>by
    have:=h4 i (by simpa using(List.getElem?_eq_some_iff.1 ho).1)
    rw[ho] at this
    simp only[Bool.and_eq_true,Bool.or_eq_true,List.all_eq_true] at this
    refine⟨fun e he=>Da (this.1 e (by simpa using he)),fun hle j hj=>?_⟩
    rcases this.2 with h | h
    · have:=Da h
      omega
    · exact h j (by simpa using hj)
  have hE:∀ (i j:Nat) (t u:PIt),its[i]?=some t→its[j]?=some u→i≠j→∀ k∈t.eats,k ∉ u.rdeps:=fun i j t u ht hu hij k hk hmem=>by
    simp only[T3,List.all_eq_true,List.mem_range] at h0
    have:=h0 i (List.getElem?_eq_some_iff.1 ht).1 j (List.getElem?_eq_some_iff.1 hu).1
    rw[ht,hu] at this
    simp only[Bool.or_eq_true,List.all_eq_true] at this
    rcases this with h | h
    · exact hij (Nat.eq_of_beq_eq_true h)
    · have h2:=h k hk
      have h3:(u.rdeps.any (Nat.beq k))=true:=List.any_eq_true.2 ⟨k,hmem,Nat.beq_refl k⟩
      rw[h3] at h2
      cases h2
  refine Su (fun i o ho=>(h4' i o ho).1) (fun i o ho=>(h4' i o ho).2) hle (fun i t ht=>?_) h3 hop hE hrest _ _ (fun _=>[]) a _ ?_ ⟨hf.df,hf.sz,hf.slot,fun i t _ hl=>?_,fun i t _ hl=>?_,?_,by simp,fun k _=>?_,fun k _ _ hk2=>?_⟩
  · have:=h2 i (by simpa using(List.getElem?_eq_some_iff.1 ht).1)
    rw[ht] at this
    exact bJ this
  · have:Uo its.length (Array.replicate l.toArray.size false) = []:=List.filter_eq_nil_iff.2 fun j _=>by rw[CM];simp
    rw[this]
    simp
  · rw[CM] at hl
    cases hl
  · rw[CM] at hl
    cases hl
  · have:Xd its (Array.replicate l.toArray.size false) = []:=List.filter_eq_nil_iff.2 fun j _=>by rw[CM];simp
    rw[this]
    exact hs.drew
  · exact CM _ _
  · rw[CM] at hk2
    cases hk2
theorem GC.par {id:Nat}(its:List PIt)(hm:P.follows .mixedOrders=true)(hpar:U1 n l its env=true)(hop:As P l its n env W own 0 its l)
    (hrest:∀ θ,Km θ its→G P l.toArray Q (l.drop its.length) n (Em its θ 0 its++env) W (Ez its θ 0 its++own)):GC P (.region id l.toArray true) Q n env W own:=fun a w hf hs=>wp_region_any hm (Qu hpar hop hrest a w hf hs)
theorem As.nil {i:Nat}{os:List Oper}:As P l its n env W own i [] os:=trivial
theorem As.cons {i:Nat}{t:PIt}{ts:List PIt}{o:Oper}{os:List Oper}(h:∀ (θ:Nat→List Value) (R:List Asn),KJ its θ t.deps →
      AR P l o n (CU its θ t.deps++env) W (B4 its θ t.rdeps++(own++R)) fun v own'=>∃ g:List Value,v=t.V (upd θ i g)∧t.O (upd θ i g)∧own'=t.R (upd θ i g)++(B4 its θ t.left++(own++R)))
    (hs:As P l its n env W own (i+1) ts os):As P l its n env W own i (t::ts) (o::os):=⟨h,hs⟩
theorem OG.imp {o:Oper}{K K':Value→List Asn→Prop}(h:OG P o n env W own K)(hk:∀ v ow,K v ow→K' v ow):OG P o n env W own K':=fun a w next Q hf hs hn=>h a w next Q hf hs fun v w' own' hv hs'=>hn v w' own' (hk _ _ hv) hs'
theorem Ent.app {V:World→Prop}(h:Ent own V){R:List Asn}:Ent (own++R) V:=fun W w hs=>h W w (hs.sub (List.sublist_append_left _ _))
def gOf:Value→Nat
  | .pointer (some a)=>a.block
  | _=>0
end
theorem pk {v a:Value}{o L:List Asn}{F:List Value→Value}{Q:List Value→Prop}{E:List Value→List Asn}(h:v=a∧o=L)(h1:a=F [])(h2:Q [])(h3:L=E []):∃ g:List Value,v=F g∧Q g∧o=E g:=by
  obtain⟨rfl,rfl⟩:=h;exact⟨[],h1,h2,h3⟩
section
variable {P:Program}{n d:Nat}{env:List (Nat × Value)}{W:World}{own own':List Asn}{l:List Oper}{o:Oper}{Q:Exit→Act→World→Prop}{ops:Array Oper}{rest:List Oper}{v:Value}
theorem Zd (h:OD P o n env W own v own')(e:(o.guard,o.dst,Nat.blt d n)=(none,some d,true))(k:G P ops Q rest n ((d,v)::env) W own'):G P ops Q (o::rest) n env W own:=G.stepD h (congrArg (·.1) e) (congrArg (·.2.1) e) (congrArg (·.2.2) e) k
theorem Zm {x:Operand}(e:(o.op,ev env x,o.guard,o.dst,Nat.blt d n)=(.move x,some v,none,some d,true))(k:G P ops Q rest n ((d,v)::env) W own):G P ops Q (o::rest) n env W own:=G.stepD (OD.move (congrArg (·.1) e) (congrArg (·.2.1) e)) (congrArg (·.2.2.1) e) (congrArg (·.2.2.2.1) e) (congrArg (·.2.2.2.2) e) k
theorem Za {x:Operand}(e:(o.op,ev env x,o.guard,o.dst,Nat.blt d n)=(.assign x,some v,none,some d,true))(k:G P ops Q rest n ((d,v)::env) W own):G P ops Q (o::rest) n env W own:=G.stepD (OD.assign (congrArg (·.1) e) (congrArg (·.2.1) e)) (congrArg (·.2.2.1) e) (congrArg (·.2.2.2.1) e) (congrArg (·.2.2.2.2) e) k
theorem Zq {F:List Value→Value}{E:List Value→List Asn}(h:OD P o n env W own v own')(e:(o.guard,v,own')=(none,F [],E [])):AR P l o n env W own fun v own'=>∃ g:List Value,v=F g∧True∧own'=E g:=AR.plain (OG.imp h fun _ _ h=>pk h (congrArg (·.2.1) e) trivial (congrArg (·.2.2) e)) (congrArg (·.1) e)
theorem Zo {F:List Value→Value}{O:List Value→Prop}{E:List Value→List Asn}{j s:Nat}{b:Bool}(h:OD P o n env W own v own')(hg:o.guard=some (j,b))(hj:(l.toArray[j]?).bind (·.dst)=some s)(hb:lk s env=some (.bool b))(h1:v=F [])(h2:O [])(h3:own'=E []):AR P l o n env W own fun v own'=>∃ g:List Value,v=F g∧O g∧own'=E g:=AR.on (OG.imp h fun _ _ h=>pk h h1 h2 h3) hg hj hb
theorem Zn (h:GE .normal Q n env W own):G P ops Q [] n env W own:=G.nil h
theorem Zt {c:Code}{Q':Exit→Act→World→Prop}(h:GC P c Q' n env W own):GE .normal (Exit.then (fun a w=>c.wp P Q' a w) Q) n env W own:=h
theorem Zs {x y:Code}(h:GC P x (Exit.then (fun a w=>y.wp P Q a w) Q) n env W own):GC P (.seq x y) Q n env W own:=GC.seq h
theorem Zr {id:Nat}{l:List Oper}(h:G P l.toArray Q l n env W own):GC P (.region id l.toArray false) Q n env W own:=GC.region h
theorem Zk (h:GE .normal Q n env W own):GC P .skip Q n env W own:=GC.skip h
theorem Zp {K:Act→World→Prop}{id:Nat}(h:GE (.exit id) Q n env W own):GE (.exit id) (Exit.then K Q) n env W own:=GE.pass h
theorem Zc {its:List PIt}{i:Nat}{t:PIt}{ts:List PIt}{os:List Oper}(h:∀ (θ:Nat→List Value) (R:List Asn),KJ its θ t.deps →
      AR P l o n (CU its θ t.deps++env) W (B4 its θ t.rdeps++(own++R)) fun v own'=>∃ g:List Value,v=t.V (upd θ i g)∧t.O (upd θ i g)∧own'=t.R (upd θ i g)++(B4 its θ t.left++(own++R)))
    (hs:As P l its n env W own (i+1) ts os):As P l its n env W own i (t::ts) (o::os):=⟨h,hs⟩
end
def Z0 (d:Nat)(v:Value):PIt:=⟨d,[],[],[],[],fun _=>v,fun _=>True,fun _=>[]⟩
def Z1 (d:Nat)(ds:List (Nat × Nat))(v:Value):PIt:=⟨d,ds,[],[],[],fun _=>v,fun _=>True,fun _=>[]⟩
section
variable {P:Program}{n d:Nat}{env:List (Nat × Value)}{W:World}{own own':List Asn}{l:List Oper}{o:Oper}{Q:Exit→Act→World→Prop}{ops:Array Oper}{rest:List Oper}{v:Value}{x y:Operand}{i j:Int}{t yt:TypeId}{k:IntKind}
abbrev J (x:Int):Value := .int .i64 x
abbrev Pg (g k:Nat):Value := .pointer (some ⟨g,k,none⟩)
theorem Ya (env':List (Nat × Value)){c:Code}(k:GC P c Q n env' W own)(he:Sub env env':=by repeat (first | exact trivial | refine⟨rfl,?_⟩)):GC P c Q n env W own:=fun a w hf hs=>k a w (hf.sub he) hs
theorem Yb (env':List (Nat × Value))(own':List Asn)(k:G P ops Q rest n env' W own')(he:Sub env env':=by repeat (first | exact trivial | refine⟨rfl,?_⟩))(ho:own=own':=by exact rfl):G P ops Q rest n env W own:=fun a w hf hs=>k a w (hf.sub he) (ho ▸ hs)
theorem Yp (is:List Nat)(own':List Asn)(k:G P ops Q rest n env W own')(ho:Kp is 0 own=own':=by exact rfl):G P ops Q rest n env W own:=fun a w hf hs=>k a w hf (hs.kp is 0 ho)
theorem Yq {c:Code}(is:List Nat)(own':List Asn)(k:GC P c Q n env W own')(ho:Kp is 0 own=own':=by exact rfl):GC P c Q n env W own:=fun a w hf hs=>k a w hf (hs.kp is 0 ho)
theorem Yr {e:Exit}(is:List Nat)(own':List Asn)(k:GE e Q n env W own')(ho:Kp is 0 own=own':=by exact rfl):GE e Q n env W own:=fun a w hf hs=>k a w hf (hs.kp is 0 ho)
theorem Yg {ι:Type}{E:ι→List (Nat × Value)}{O:ι→List Asn}{inv:ι→Prop}{μ:ι→Nat}{i:ι}(j:ι)(hi:inv j)(is:List Nat)(m:Nat)(hm:μ j<μ i:=by first | omega | (dsimp only;omega))(he:Sub env (E j):=by repeat (first | exact trivial | refine⟨rfl,?_⟩))(ho:Kp is m own=O j:=by exact rfl):GE .normal (Exit.then (K3 E O inv μ n W i) Q) n env W own:=GE.again j hi hm he is m ho
theorem Yl {ι:Type}{c:Code}(E:ι→List (Nat × Value))(O:ι→List Asn)(inv:ι→Prop)(μ:ι→Nat)(i0:ι)(h0:inv i0)(is:List Nat)(m:Nat)(hr:∀ i,inv i→GC P c (Exit.then (K3 E O inv μ n W i) Q) n (E i) W (O i))(he:Sub env (E i0):=by repeat (first | exact trivial | refine⟨rfl,?_⟩))(ho:Kp is m own=O i0:=by exact rfl):GC P (.loop c) Q n env W own:=GC.loop E O inv μ i0 h0 he is m ho hr
theorem Wp {id:Nat}(its:List PIt)(hop:As P l its n env W own 0 its l)(hrest:∀ θ,Km θ its→G P l.toArray Q (l.drop its.length) n (Em its θ 0 its++env) W (Ez its θ 0 its++own))(hm:P.follows .mixedOrders=true:=by kernel_rfl)(hpar:U1 n l its env=true:=by kernel_rfl):GC P (.region id l.toArray true) Q n env W own:=GC.par its hm hpar hop hrest
theorem Yv {its:List PIt}{i:Nat}{t:PIt}{ts:List PIt}{os:List Oper}(hs:As P l its n env W own (i+1) ts os)(e:∀ (θ:Nat→List Value) (R:List Asn),(o.op,o.guard,ev (CU its θ t.deps++env) x,t.O (upd θ i []),B4 its θ t.rdeps++(own++R))=(.move x,none,some (t.V (upd θ i [])),True,t.R (upd θ i [])++(B4 its θ t.left++(own++R))):=by exact fun _ _=>rfl):As P l its n env W own i (t::ts) (o::os) :=
  Zc (fun θ R _=>AR.plain (OG.imp (OD.move (congrArg (·.1) (e θ R)) (congrArg (·.2.2.1) (e θ R))) fun _ _ h=>pk h rfl (of_eq_true (congrArg (·.2.2.2.1) (e θ R))) (congrArg (·.2.2.2.2) (e θ R))) (congrArg (·.2.1) (e θ R))) hs
theorem Yw {its:List PIt}{i j s:Nat}{b:Bool}{t:PIt}{ts:List PIt}{os:List Oper}(hs:As P l its n env W own (i+1) ts os)(e:∀ (θ:Nat→List Value) (R:List Asn),(o.op,o.guard,(l.toArray[j]?).bind (·.dst),lk s (CU its θ t.deps++env),ev (CU its θ t.deps++env) x,t.O (upd θ i []),B4 its θ t.rdeps++(own++R))=(.move x,some (j,b),some s,some (.bool b),some (t.V (upd θ i [])),True,t.R (upd θ i [])++(B4 its θ t.left++(own++R))):=by exact fun _ _=>rfl):As P l its n env W own i (t::ts) (o::os) :=
  Zc (fun θ R _=>AR.on (OG.imp (OD.move (congrArg (·.1) (e θ R)) (congrArg (·.2.2.2.2.1) (e θ R))) fun _ _ h=>pk h rfl (of_eq_true (congrArg (·.2.2.2.2.2.1) (e θ R))) (congrArg (·.2.2.2.2.2.2) (e θ R))) (congrArg (·.2.1) (e θ R)) (congrArg (·.2.2.1) (e θ R)) (congrArg (·.2.2.2.1) (e θ R))) hs
theorem Yo {its:List PIt}{i j s:Nat}{b c:Bool}{t:PIt}{ts:List PIt}{os:List Oper}(hs:As P l its n env W own (i+1) ts os)(e:∀ (θ:Nat→List Value) (R:List Asn),(o.guard,(l.toArray[j]?).bind (·.dst),lk s (CU its θ t.deps++env),(c==b),t.V (upd θ i []),t.O (upd θ i []),B4 its θ t.rdeps++(own++R))=(some (j,b),some s,some (.bool c),false,undef,True,t.R (upd θ i [])++(B4 its θ t.left++(own++R))):=by exact fun _ _=>rfl):As P l its n env W own i (t::ts) (o::os) :=
  Zc (fun θ R _=>AR.off ⟨[],(congrArg (·.2.2.2.2.1) (e θ R)).symm,of_eq_true (congrArg (·.2.2.2.2.2.1) (e θ R)),congrArg (·.2.2.2.2.2.2) (e θ R)⟩ (congrArg (·.1) (e θ R)) (congrArg (·.2.1) (e θ R)) (congrArg (·.2.2.1) (e θ R)) (congrArg (·.2.2.2.1) (e θ R))) hs
theorem Qp (hop:o.op = .binOp .add t x y yt:=by exact rfl)(hx:ev env x=some (.int .i64 i):=by exact rfl)(hy:ev env y=some (.int .i64 j):=by exact rfl)(hb : -9223372036854775808≤i+j∧i+j≤9223372036854775807:=by omega):OD P o n env W own (.int .i64 (i+j)) own:=OD.addI hop hx hy hb
theorem Qs (hop:o.op = .binOp .sub t x y yt:=by exact rfl)(hx:ev env x=some (.int .i64 i):=by exact rfl)(hy:ev env y=some (.int .i64 j):=by exact rfl)(hb : -9223372036854775808≤i - j∧i - j≤9223372036854775807:=by omega):OD P o n env W own (.int .i64 (i - j)) own:=OD.subI hop hx hy hb
theorem Qm (hop:o.op = .binOp .mul t x y yt:=by exact rfl)(hx:ev env x=some (.int .i64 i):=by exact rfl)(hy:ev env y=some (.int .i64 j):=by exact rfl)(hb : -9223372036854775808≤i*j∧i*j≤9223372036854775807:=by omega):OD P o n env W own (.int .i64 (i*j)) own:=OD.mulI hop hx hy hb
theorem Bb (hop:o.op = .binOp .lss t x y yt:=by exact rfl)(hx:ev env x=some (.int k i):=by exact rfl)(hy:ev env y=some (.int k j):=by exact rfl):OD P o n env W own (.bool (decide (i<j))) own:=OD.lss hop hx hy
theorem FJ (hop:o.op = .binOp .eql t x y yt:=by exact rfl)(hx:ev env x=some (.int k i):=by exact rfl)(hy:ev env y=some (.int k j):=by exact rfl):OD P o n env W own (.bool (i==j)) own:=OD.eql hop hx hy
theorem EK (hop:o.op = .binOp .neq t x y yt:=by exact rfl)(hx:ev env x=some (.int k i):=by exact rfl)(hy:ev env y=some (.int k j):=by exact rfl):OD P o n env W own (.bool (i != j)) own:=OD.neq hop hx hy
theorem CN (hop:o.op = .binOp .mul t x y yt:=by exact rfl)(hx:ev env x=some (.int k i):=by exact rfl)(hy:ev env y=some (.int k j):=by exact rfl):OD P o n env W own (.int k (k.wrap (i*j))) own:=OD.mul hop hx hy
theorem Ha (hop:o.op = .binOp .add t x y yt:=by exact rfl)(hx:ev env x=some (.int k i):=by exact rfl)(hy:ev env y=some (.int k j):=by exact rfl):OD P o n env W own (.int k (k.wrap (i+j))) own:=OD.add hop hx hy
section
variable {sz g off T bytes:Nat}{zero z:Value}{pl:List (Nat × Nat)}{cs:List Value}{e:TypeId}
theorem Ql (ti:TI P t false sz zero pl)(i:Nat)(hop:o.op = .load t x:=by exact rfl)(hx:ev env x=some (.pointer (some ⟨g,off,none⟩)):=by exact rfl)(hi:own[i]?=some (box g T cs):=by exact rfl)(hc:cs[off]?=some v:=by exact rfl):OD P o n env W own v own:=OD.load hop ti hx hi hc
theorem Qa (ti:TI P t true sz zero pl)(i:Nat)(us:List Value)(hop:o.op = .load t x:=by exact rfl)(hx:ev env x=some (.pointer (some ⟨g,off,none⟩)):=by exact rfl)(hi:own[i]?=some (box g T cs):=by exact rfl)(hu:(cs.drop off).take sz=us:=by exact rfl)(hl:us.length=sz:=by exact rfl):OD P o n env W own (.agg us.toArray) own:=OD.loadAgg hop ti hx hi hu hl
theorem Qi {m:Nat}{q:Int}(et:ET P t e sz bytes z)(hne:Ent own fun w=>Sl w v m sz cs)(hop:o.op = .indexAddr t x y:=by exact rfl)(hx:ev env x=some v:=by exact rfl)(hy:ev env y=some (.int .i64 q):=by exact rfl)(hk:0≤q∧q<m:=by omega):OD P o n env W own (Aa v sz q.toNat) own:=OD.indexAddr hop et hx hne hy hk
theorem Qn {m:Nat}{c:Call}(et:ET P t e sz bytes z)(hv:Ent own fun w=>Sl w v m sz cs)(hop:o.op = .call c:=by exact rfl)(hc:c={ callee := .builtin .len,args:=#[x],argTypes:=#[t] }:=by exact rfl)(hx:ev env x=some v:=by exact rfl):OD P o n env W own (.int .i64 m) own:=OD.len hop hc et hx hv
theorem Qv {xs:List Int}{j:Nat}(ti:TI P e false 1 zero pl)(hv:Ent own fun w=>Ints w v xs)(hop:o.op = .load e x:=by exact rfl)(hx:ev env x=some (Aa v 1 j):=by exact rfl)(hj:j<xs.length:=by omega):OD P o n env W own (.int .i64 (xs.getD j 0)) own:=OD.loadInt hop ti hx hv hj
theorem Qf {s f d ao:Nat}(hfd:∀ (b k:Nat) w,(Instr.fieldAt s (.pointer (some ⟨b,k,none⟩)) f).run P w = .ok (.pointer (some ⟨b,k+d,none⟩)) w)(hop:o.op = .fieldAddr s x f:=by exact rfl)(hx:ev env x=some (.pointer (some ⟨g,ao,none⟩)):=by exact rfl):OD P o n env W own (.pointer (some ⟨g,ao+d,none⟩)) own:=OD.fieldAddr hop hx hfd
theorem Ei {e:Nat}{v:Value}{xs:List Int}(i:Nat)(h:own[i]?=some (ints e v xs):=by exact rfl):Ent own fun w=>Ints w v xs:=Ent.ints h
end
end
section
variable {P:Program}{n d j s:Nat}{b c:Bool}{env:List (Nat × Value)}{W:World}{own own':List Asn}{o:Oper}{Q:Exit→Act→World→Prop}{ops:Array Oper}{rest:List Oper}{v:Value}{x y:Operand}{K:Value→List Asn→Prop}
theorem Yt (h:OG P o n env W own K)(k:∀ v own',K v own'→G P ops Q rest n ((d,v)::env) W own')(hg:o.guard=none:=by exact rfl)(ho:o.dst=some d:=by exact rfl)(hd:Nat.blt d n=true:=by exact rfl):G P ops Q (o::rest) n env W own:=G.step h hg ho hd k
theorem Ye (h:OG P o n env W own K)(k:∀ v own',K v own'→G P ops Q rest n ((d,v)::env) W own')(hg:o.guard=some (j,b):=by exact rfl)(hj:(ops[j]?).bind (·.dst)=some s:=by exact rfl)(hb:lk s env=some (.bool b):=by exact rfl)(ho:o.dst=some d:=by exact rfl)(hd:Nat.blt d n=true:=by exact rfl):G P ops Q (o::rest) n env W own:=G.stepG h hg hj hb ho hd k
theorem Yd (h:OD P o n env W own v own')(k:G P ops Q rest n ((d,v)::env) W own')(hg:o.guard=some (j,b):=by exact rfl)(hj:(ops[j]?).bind (·.dst)=some s:=by exact rfl)(hb:lk s env=some (.bool b):=by exact rfl)(ho:o.dst=some d:=by exact rfl)(hd:Nat.blt d n=true:=by exact rfl):G P ops Q (o::rest) n env W own:=G.stepGD h hg hj hb ho hd k
theorem Yk (k:G P ops Q rest n ((d,undef)::env) W own)(hg:o.guard=some (j,b):=by exact rfl)(hj:(ops[j]?).bind (·.dst)=some s:=by exact rfl)(hb:lk s env=some (.bool c):=by exact rfl)(hbc:(c==b)=false:=by exact rfl)(ho:o.dst=some d:=by exact rfl)(hd:Nat.blt d n=true:=by exact rfl):G P ops Q (o::rest) n env W own:=G.skipG hg hj hb hbc ho hd k
theorem Yu {t:TypeId}{agg:Bool}{g sz off T:Nat}{zero:Value}{pl:List (Nat × Nat)}{cs:List Value}(ti:TI P t agg sz zero pl)(us:List Value)(i:Nat)(h1:us.all (·.oneCell')=true)(k:G P ops Q rest n env W (own.set i (box g T (cs.take off++us++cs.drop (off+sz)))))(hop:o.op = .store t x y:=by exact rfl)(hx:ev env x=some (.pointer (some ⟨g,off,none⟩)):=by exact rfl)(hy:ev env y=some v:=by exact rfl)(hv:v.cells=us.toArray:=by exact rfl)(hl:us.length=sz:=by exact rfl)(hi:own[i]?=some (box g T cs):=by exact rfl)(hle:Nat.ble (off+sz) cs.length=true:=by exact rfl)(hg:o.guard=none:=by exact rfl)(ho:o.dst=none:=by exact rfl):G P ops Q (o::rest) n env W own:=G.stepD0 (OD.store hop ti hx hy hv hl h1 hi hle) hg ho k
theorem Yc (vs:List Value){f:FuncId}{args:List Operand}{ty:Array TypeId}{first cap us:List Value}(he:∀ us w,(callFunc f us).run P w = .ok (.enter f us) w)(spec:Spec P f vs W own K)(hop:o.op = .call { callee := .value x,args:=args.toArray,argTypes:=ty }:=by exact rfl)(hx:ev env x=some (.func (.func f) first.toArray cap.toArray):=by exact rfl)(ha:evs env args=some us:=by exact rfl)(hv:first++us++cap=vs:=by exact rfl):OG P o n env W own K:=OG.call vs he hop hx ha hv spec
end
end Go.Proofs.YtbmnnbglipkidaaGreatDoor
