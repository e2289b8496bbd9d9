/-
  Regions that leave their order open and in which some operations, that do nothing but name a value anew, may come late: they may as well be taken as soon as they are ready.
-/
import Derived.Test.YtbmnnbglipkidaaGreatDoorPar
namespace Go.Proofs.YtbmnnbglipkidaaGreatDoor
set_option linter.unusedVariables false
set_option linter.unusedSimpArgs false
open Go.RowKit
structure PanQ (Q:Exit→Act→World→Prop):Prop where
  pan:∀ (c:List PanicEntry) (a:Act) (d:Option Tmp) (v:Value) (w:World),Q (.panic c) (a.put d v) w→Q (.panic c) a w
  out : ¬ LetsOut Q
theorem PanQ.then_ {K:Act→World→Prop}{Q:Exit→Act→World→Prop}(h:PanQ Q):PanQ (Exit.then K Q):=⟨fun c a d v w hq=>h.pan c a d v w hq,fun⟨a,w,hq⟩=>h.out ⟨a,w,hq⟩⟩
theorem PanQ.block {id:Nat}{Q:Exit→Act→World→Prop}(h:PanQ Q):PanQ (Exit.inBlock id Q):=⟨fun c a d v w hq=>h.pan c a d v w hq,fun⟨a,w,hq⟩=>h.out ⟨a,w,hq⟩⟩
theorem PanQ.body {P:Program}{fn:Func}{W:World}{K:Value→List Asn→Prop}:PanQ (bodyPost P fn fun e w'=>∃ v own',e = .returned v∧K v own'∧St W w' own'):=⟨fun c a d v w hq=>by
  cases d <;> exact hq,fun⟨a,w,hq⟩=>by
  obtain⟨v,own',h,_⟩:=hq
  cases h⟩
def C2 (l:List Oper)(σ:List Nat):List Oper:=σ.filterMap fun i=>l[i]?
def MZ (σ:List Nat)(e:Edge):Edge:=⟨σ.idxOf e.on,e.ground⟩
def Ht (σ L:List Nat)(p q:Nat)(o:Oper):Oper:={ o with after:=((o.after.toList.filter (Region.binds .any)).map (MZ σ)++bif Nat.ble p q then L.map fun i=>(⟨σ.idxOf i,.data⟩:Edge) else[]).toArray }
def reoGo (σ L:List Nat)(p:Nat):Nat→List Oper→List Oper
  | _,[]=>[]
  | q,o::os=>Ht σ L p q o::reoGo σ L p (q+1) os
def reo (l:List Oper)(σ L:List Nat)(p:Nat):List Oper:=reoGo σ L p 0 (C2 l σ)
def ZC (l:List Oper)(i:Nat):Array Bool:=((List.range l.length).map fun j=>E4 l (l.length+1) i j).toArray
def av (o:Oper):Bool:=match o.op with | .move _ | .assign _ | .extract .. => true | _=>false
structure FA (P:Program)(s:TypeId)(f:Nat):Prop where
  und:∃ fs fd,P.underlying s=some (.struct fs)∧fs[f]?=some fd
  ok:∃ d:Nat,∀ (a:Addr) w,(Instr.fieldAt s (.pointer (some a)) f).run P w = .ok (.pointer (some (a.add d))) w
def Pf (P:Program)(o:Oper):Prop:=av o=true∨∃ s x f,o.op = .fieldAddr s x f∧FA P s f
def dz (P:Program)(l:List Oper):List Nat→Prop
  | []=>True
  | i::t=>(∃ o,l[i]?=some o∧Pf P o)∧dz P l t
theorem dz.get {P:Program}{l:List Oper}:∀ {L:List Nat} {x:Nat},dz P l L→x∈L→∃ o,l[x]?=some o∧Pf P o
  | [],_,_,h=>by simp at h
  | i::t,x,h,hx=>by
    rcases List.mem_cons.1 hx with rfl | hx
    · exact h.1
    · exact dz.get h.2 hx
def VE (l:List Oper)(σ L:List Nat)(p:Nat):Bool :=
  Nat.beq σ.length l.length&&(List.range l.length).all (fun i=>Nat.beq (σ.getD (σ.idxOf i) l.length) i&&Nat.blt (σ.idxOf i) l.length) &&
  (List.range l.length).all (fun q=>Nat.beq (σ.idxOf (σ.getD q l.length)) q&&Nat.blt (σ.getD q l.length) l.length) &&
  l.all (fun o=>o.guard.isNone&&o.after.toList.all fun e=>Nat.blt e.on l.length)&&Region.noSelect l.toArray &&
  L.all fun i=>match l[i]? with
    | some o=>Region.free .any l.toArray (ZC l i) i&&Nat.blt (σ.idxOf i) p &&
      (List.range l.length).all fun q=>Nat.blt q p || o.after.toList.all fun e => !(Region.binds .any e) || E4 l (l.length+1) (σ.getD q l.length) e.on
    | none=>false
structure Late (l:List Oper)(σ L:List Nat)(p:Nat):Prop where
  len:σ.length=l.length
  fg:∀ i,i<l.length→σ.getD (σ.idxOf i) l.length=i∧σ.idxOf i<l.length
  gf:∀ q,q<l.length→σ.idxOf (σ.getD q l.length)=q∧σ.getD q l.length<l.length
  gd:∀ o∈l,o.guard=none∧∀ e∈o.after,e.on<l.length
  ns:Region.noSelect l.toArray=true
  lt:∀ i∈L,∃ o,l[i]?=some o∧Region.free .any l.toArray (ZC l i) i=true∧σ.idxOf i<p ∧
    ∀ q,q<l.length→p≤q→∀ e∈o.after,Region.binds .any e=true→E4 l (l.length+1) (σ.getD q l.length) e.on=true
theorem Late.of {l:List Oper}{σ L:List Nat}{p:Nat}(h:VE l σ L p=true):Late l σ L p:=by
  simp only[VE,Bool.and_eq_true,List.all_eq_true,List.mem_range] at h
  obtain⟨⟨⟨⟨⟨h1,h2⟩,h3⟩,h4⟩,h5⟩,h6⟩:=h
  refine⟨Nat.eq_of_beq_eq_true h1,fun i hi=>?_,fun q hq=>?_,fun o ho=>?_,h5,fun i hi=>?_⟩
  · have:=h2 i hi
    exact⟨Nat.eq_of_beq_eq_true this.1,Da this.2⟩
  · have:=h3 q hq
    exact⟨Nat.eq_of_beq_eq_true this.1,Da this.2⟩
  · have:=h4 o ho
    exact⟨by simpa using this.1,fun e he=>Da (this.2 e (by simpa using he))⟩
  · have:=h6 i hi
    split at this
    · rename_i o ho
      simp only[Bool.and_eq_true,List.all_eq_true,List.mem_range,Bool.or_eq_true] at this
      obtain⟨⟨a2,a3⟩,a4⟩:=this
      refine⟨o,ho,a2,Da a3,fun q hq hpq e he hb=>?_⟩
      rcases a4 q hq with h | h
      · have:=Da h
        omega
      · rcases h e (by simpa using he) with h | h
        · rw[hb] at h
          cases h
        · exact h
    · cases this
theorem pickO_get {l:List Oper}:∀ {σ:List Nat},(∀ x∈σ,x<l.length)→∀ q:Nat,(C2 l σ)[q]?=(σ[q]?).bind fun i=>l[i]?
  | [],_,q=>by simp[C2]
  | x::σ,h,q=>by
    obtain⟨o,ho⟩:∃ o,l[x]?=some o:=⟨l[x]'(h x (by simp)),List.getElem?_eq_getElem _⟩
    have e:C2 l (x::σ)=o::C2 l σ:=by simp[C2,List.filterMap_cons,ho]
    rw[e]
    cases q with
    | zero=>simp[ho]
    | succ q=>simpa using pickO_get (σ:=σ) (fun y hy=>h y (by simp[hy])) q
theorem Lw {σ L:List Nat}{p:Nat}:∀ {os:List Oper} (q k:Nat),(reoGo σ L p q os)[k]?=(os[k]?).map (Ht σ L p (q+k))
  | [],q,k=>by simp[reoGo]
  | o::os,q,0=>by simp[reoGo]
  | o::os,q,k+1=>by
    have:=Lw (σ:=σ) (L:=L) (p:=p) (os:=os) (q+1) k
    simp only[reoGo,List.getElem?_cons_succ,this]
    rw[show q+1+k=q+(k+1) by omega]
theorem Mj {σ L:List Nat}{p:Nat}:∀ {os:List Oper} (q:Nat),(reoGo σ L p q os).length=os.length
  | [],q=>rfl
  | o::os,q=>by simp[reoGo,Mj (os:=os) (q+1)]
theorem Ka {σ L:List Nat}{p:Nat}:∀ {os:List Oper} (q k:Nat),(reoGo σ L p q os).drop k=reoGo σ L p (q+k) (os.drop k)
  | [],q,k=>by cases k <;> simp[reoGo]
  | o::os,q,0=>rfl
  | o::os,q,k+1=>by
    have:=Ka (σ:=σ) (L:=L) (p:=p) (os:=os) (q+1) k
    simp only[reoGo,List.drop_succ_cons,this]
    rw[show q+1+k=q+(k+1) by omega]
section
variable {P:Program}{l:List Oper}{σ L:List Nat}{p:Nat}{Q:Exit→Act→World→Prop}
theorem Late.mem (h:Late l σ L p):∀ x∈σ,x<l.length:=fun x hx=>by
  obtain⟨q,hq,he⟩:=List.getElem_of_mem hx
  have:=(h.gf q (by rw[← h.len];exact hq)).2
  rw[List.getD_eq_getElem?_getD,List.getElem?_eq_getElem hq] at this
  simpa [he] using this
theorem Late.plen (h:Late l σ L p):(C2 l σ).length=l.length:=by
  have key:∀ τ:List Nat,(∀ x∈τ,x<l.length)→(C2 l τ).length=τ.length:=by
    intro τ
    induction τ with
    | nil=>intro _;rfl
    | cons x τ ih =>
      intro hx
      have e:C2 l (x::τ)=l[x]'(hx x (by simp))::C2 l τ:=by simp[C2,List.filterMap_cons,List.getElem?_eq_getElem (hx x (by simp))]
      rw[e,List.length_cons,List.length_cons,ih fun y hy=>hx y (by simp[hy])]
  rw[key σ h.mem,h.len]
theorem Late.rlen (h:Late l σ L p):(reo l σ L p).length=l.length:=by rw[reo,Mj,h.plen]
theorem Late.get (h:Late l σ L p){q:Nat}(hq:q<l.length):∃ o,l[σ.getD q l.length]?=some o∧(C2 l σ)[q]?=some o∧(reo l σ L p)[q]?=some (Ht σ L p q o):=by
  have h1:=(h.gf q hq).2
  have hs:σ[q]?=some (σ.getD q l.length):=by
    rw[List.getD_eq_getElem?_getD,List.getElem?_eq_getElem (by rw[h.len];exact hq)]
    rfl
  have hp:(C2 l σ)[q]?=some (l[σ.getD q l.length]'h1):=by rw[pickO_get h.mem,hs];simp[List.getElem?_eq_getElem h1]
  refine⟨_,List.getElem?_eq_getElem h1,hp,?_⟩
  rw[reo,Lw,hp,Nat.zero_add]
  rfl
theorem Late.get' (h:Late l σ L p){i:Nat}{o:Oper}(hi:l[i]?=some o):σ.idxOf i<l.length∧σ.getD (σ.idxOf i) l.length=i∧(reo l σ L p)[σ.idxOf i]?=some (Ht σ L p (σ.idxOf i) o):=by
  have hlt:=(List.getElem?_eq_some_iff.1 hi).1
  obtain⟨h1,h2⟩:=h.fg i hlt
  obtain⟨o',e1,e2,e3⟩:=h.get h2
  rw[h1,hi] at e1
  cases e1
  exact⟨h2,h1,e3⟩
theorem MN {ops:Array Oper}{i:Nat}{o:Oper}(hi:ops[i]?=some o)(hg:o.guard=none)(K:Act→World→Prop)(a:Act)(w:World):wpOp P ops Q i K a w=(o.wp P a w K Q∨(o.asks P a w∧LetsOut Q)):=by
  simp[wpOp,hi,Region.wanted,hg]
theorem extract_or (x:Value)(ix:Nat):(∃ v,Instr.extract x ix=pure v)∨∃ m,Instr.extract x ix=stuck m:=by
  unfold Instr.extract
  split
  · split
    · exact .inl ⟨_,rfl⟩
    · exact .inr ⟨_,rfl⟩
  · exact .inr ⟨_,rfl⟩
theorem NQ {ops:Array Oper}{o:Oper}(hp:Pf P o)(hg:o.guard=none){K:Act→World→Prop}{a:Act}{w:World}(hQ : ¬ LetsOut Q)(h:o.wp P a w K Q∨(o.asks P a w∧LetsOut Q)):∃ v,Yields P ops o v a∧K (a.put o.dst v) w:=by
  have hw:Region.wanted o (yielded ops a.tmps)=true:=by simp[Region.wanted,hg]
  replace h:=h.resolve_right fun hq=>hQ hq.2
  have key:∀ v,(∀ w,(execOp a.eval o).run P w = .ok (.value v) w)→∃ v,Yields P ops o v a∧K (a.put o.dst v) w:=fun v hv=>by
    refine⟨v,.inl ⟨hw,hv⟩,?_⟩
    unfold Oper.wp at h
    rw[hv w] at h
    exact h
  rcases hp with hp | ⟨s,x,f,hop,⟨⟨fs,fd,hu,hf⟩,d,hd⟩⟩
  · cases hop:o.op <;> try (simp[av,hop] at hp;done)
    case move x=>exact key (a.eval x) fun w=>by simp only[execOp,hop];rfl
    case assign x=>exact key (a.eval x) fun w=>by simp only[execOp,hop];rfl
    case extract x ix =>
      rcases extract_or (a.eval x) ix with⟨v,hv⟩ | ⟨m,hv⟩
      · exact key v fun w=>by simp only[execOp,hop,hv];rfl
      · exfalso
        have hv':execOp a.eval o=(do pure (.value (← (stuck m:Sem Value))):Sem Next):=by simp only[execOp,hop,hv]
        unfold Oper.wp at h
        rw[hv'] at h
        exact h
  · have good:∀ ad,a.eval x = .pointer (some ad)→∃ v,Yields P ops o v a∧K (a.put o.dst v) w:=fun ad he=>key (.pointer (some (ad.add d))) fun w=>by
      have:=hd ad w
      simp[execOp,hop,he,this]
    have bad:(∀ ad,a.eval x ≠ .pointer (some ad))→False:=fun hn=>by
      unfold Oper.wp at h
      have e:∃ m,(execOp a.eval o).run P w=(stuck m:Sem Next).run P w:=by
        simp only[execOp,hop,Instr.fieldAt,Sem.run_bind,run_underlying hu,Result.andThen_ok,hf]
        generalize a.eval x=v at hn
        unfold Instr.sureAddr
        split
        · rename_i ad
          exact absurd rfl (hn ad)
        · exact⟨_,rfl⟩
      obtain⟨m,hm⟩:=e
      rw[hm] at h
      exact h
    by_cases hx:∃ ad,a.eval x = .pointer (some ad)
    · obtain⟨ad,he⟩:=hx
      exact good ad he
    · exact(bad fun ad he=>hx ⟨ad,he⟩).elim
theorem Tu (hL:Late l σ L p)(hLP:dz P l L)(hQ:PanQ Q):∀ (m:Nat) (listed listed':Array Bool) (a:Act) (w:World),listed.size=l.length→listed'.size=l.length→(∀ q,q<l.length→listed'.getD q false=listed.getD (σ.getD q l.length) false) →
    (∀ (k:Nat) (o:Oper),l[k]?=some o→listed.getD k false=true→∀ e∈o.after,Region.binds .any e=true→listed.getD e.on false=true) →
    wpAny P .any (reo l σ L p).toArray Q m listed' a w→wpAny P .any l.toArray Q m listed a w:=by
  have B:∀ listed listed':Array Bool,listed.size=l.length→listed'.size=l.length→(∀ q,q<l.length→listed'.getD q false=listed.getD (σ.getD q l.length) false) →
      ∀ q∈Region.ready .any (reo l σ L p).toArray listed',σ.getD q l.length∈Region.ready .any l.toArray listed:=by
    intro listed listed' hs hs' hrel q hq
    obtain⟨hun,o',ho',hall⟩:=mem_ready.1 hq
    have ho2:(reo l σ L p)[q]?=some o':=by simpa using ho'
    have hlt:q<l.length:=by
      rw[← hL.rlen]
      exact(List.getElem?_eq_some_iff.1 ho2).1
    obtain⟨o,h1,_,h3⟩:=hL.get hlt
    rw[h3] at ho2
    cases ho2
    refine mem_ready.2 ⟨?_,o,by simpa using h1,fun e he hb=>?_⟩
    · rw[AO (by rw[hs'];exact hlt)] at hun
      rw[AO (by rw[hs];exact(hL.gf q hlt).2),← hrel q hlt]
      exact hun
    · have he':MZ σ e∈(Ht σ L p q o).after:=by
        simp only[Ht,List.mem_toArray,List.mem_append,List.mem_map,List.mem_filter]
        exact .inl ⟨e,⟨by simpa using he,hb⟩,rfl⟩
      have h4:=hall _ he' (by simpa [Region.binds,MZ] using hb)
      obtain⟨f1,f2⟩:=hL.fg e.on ((hL.gd o (List.mem_of_getElem? h1)).2 e he)
      have h5:=hrel _ f2
      rw[f1] at h5
      rw[← h5]
      exact h4
  have A1:∀ listed listed':Array Bool,listed.size=l.length→listed'.size=l.length→(∀ q,q<l.length→listed'.getD q false=listed.getD (σ.getD q l.length) false) →
      ∀ i∈Region.ready .any l.toArray listed,(p≤σ.idxOf i→∀ x∈L,listed.getD x false=true)→σ.idxOf i∈Region.ready .any (reo l σ L p).toArray listed':=by
    intro listed listed' hs hs' hrel i hi hx
    obtain⟨hun,o,ho,hall⟩:=mem_ready.1 hi
    have ho2:l[i]?=some o:=by simpa using ho
    have hil:=(List.getElem?_eq_some_iff.1 ho2).1
    obtain⟨q1,q2,q3⟩:=hL.get' ho2
    have on:∀ x,x<l.length→listed.getD x false=true→listed'.getD (σ.idxOf x) false=true:=fun x hxl hx=>by
      obtain⟨f1,f2⟩:=hL.fg x hxl
      rw[hrel _ f2,f1]
      exact hx
    refine mem_ready.2 ⟨?_,_,by simpa using q3,fun e he hb=>?_⟩
    · rw[AO (by rw[hs];exact hil)] at hun
      rw[AO (by rw[hs'];exact q1),hrel _ q1,q2]
      exact hun
    · simp only[Ht,List.mem_toArray,List.mem_append,List.mem_map,List.mem_filter] at he
      rcases he with⟨e0,he0,rfl⟩ | he
      · have he1:e0∈o.after:=by simpa using he0.1
        exact on e0.on ((hL.gd o (List.mem_of_getElem? ho2)).2 e0 he1) (hall e0 he1 (by simpa [Region.binds,MZ] using hb))
      · cases hb':Nat.ble p (σ.idxOf i) with
        | false =>
          rw[hb'] at he
          cases he
        | true =>
          rw[hb'] at he
          obtain⟨x,hxL,rfl⟩:=List.mem_map.1 he
          obtain⟨ox,hox,_⟩:=hL.lt x hxL
          exact on x (List.getElem?_eq_some_iff.1 hox).1 (hx (Nat.le_of_ble_eq_true hb') x hxL)
  have A:∀ listed listed':Array Bool,listed.size=l.length→listed'.size=l.length→(∀ q,q<l.length→listed'.getD q false=listed.getD (σ.getD q l.length) false) →
      (∀ (k:Nat) (o:Oper),l[k]?=some o→listed.getD k false=true→∀ e∈o.after,Region.binds .any e=true→listed.getD e.on false=true) →
      ∀ i∈Region.ready .any l.toArray listed,σ.idxOf i∈Region.ready .any (reo l σ L p).toArray listed'∨∃ x∈L,x∈Region.ready .any l.toArray listed∧σ.idxOf x∈Region.ready .any (reo l σ L p).toArray listed':=by
    intro listed listed' hs hs' hrel hcl i hi
    by_cases h:p≤σ.idxOf i∧∃ x∈L,listed.getD x false=false
    · obtain⟨hp,x,hxL,hxf⟩:=h
      obtain⟨_,o,ho,hall⟩:=mem_ready.1 hi
      have ho2:l[i]?=some o:=by simpa using ho
      obtain⟨q1,q2,q3⟩:=hL.get' ho2
      obtain⟨ox,hox,_,hxp,hxd⟩:=hL.lt x hxL
      have hxl:=(List.getElem?_eq_some_iff.1 hox).1
      have hr:x∈Region.ready .any l.toArray listed:=mem_ready.2 ⟨by rw[AO (by rw[hs];exact hxl)];exact hxf,ox,by simpa using hox,fun e he hb=>by
        have h1:=hxd _ q1 hp e he hb
        rw[q2] at h1
        exact HC hcl _ i o ho2 hall h1⟩
      exact .inr ⟨x,hxL,hr,A1 listed listed' hs hs' hrel x hr fun h=>absurd hxp (Nat.not_lt.2 h)⟩
    · exact .inl (A1 listed listed' hs hs' hrel i hi fun hp x hxL=>by
        cases hq:listed.getD x false with
        | true=>rfl
        | false=>exact absurd ⟨hp,x,hxL,hq⟩ h)
  intro m
  induction m with
  | zero =>
    intro listed listed' a w hs hs' hrel hcl h
    refine⟨List.eq_nil_iff_forall_not_mem.2 fun i hi=>?_,h.2⟩
    rcases A listed listed' hs hs' hrel hcl i hi with h1 | ⟨x,_,_,h1⟩ <;> (rw[h.1] at h1;cases h1)
  | succ m ih =>
    intro listed listed' a w hs hs' hrel hcl h
    have step:∀ q,q<l.length→∀ q',q'<l.length→(listed'.setIfInBounds q true).getD q' false=(listed.setIfInBounds (σ.getD q l.length) true).getD (σ.getD q' l.length) false:=fun q hq q' hq'=>by
      obtain⟨a1,a2⟩:=hL.gf q hq
      obtain⟨b1,b2⟩:=hL.gf q' hq'
      by_cases e:q'=q
      · subst e
        rw[CX (by rw[hs'];exact hq') _,CX (by rw[hs];exact b2) _]
      · have e2:σ.getD q' l.length≠σ.getD q l.length:=fun h=>e (by rw[← b1,h,a1])
        rw[BL e _,BL e2 _]
        exact hrel q' hq'
    have cl':∀ i∈Region.ready .any l.toArray listed,∀ (k:Nat) (o:Oper),l[k]?=some o→(listed.setIfInBounds i true).getD k false=true→∀ e∈o.after,Region.binds .any e=true→(listed.setIfInBounds i true).getD e.on false=true:=fun i hi k o ho hk e he hb=>by
      refine getD_set_true ?_
      by_cases hki:k=i
      · subst hki
        obtain⟨_,o',ho',hall⟩:=mem_ready.1 hi
        obtain rfl:o=o':=Option.some.inj (ho.symm.trans (by simpa using ho'))
        exact hall e he hb
      · rw[BL hki _] at hk
        exact hcl k o ho hk e he hb
    by_cases hx:∃ x∈L,x∈Region.ready .any l.toArray listed∧σ.idxOf x∈Region.ready .any (reo l σ L p).toArray listed'
    · obtain⟨x,hxL,hxr,hxr'⟩:=hx
      obtain⟨o,ho,hfree,_,_⟩:=hL.lt x hxL
      obtain⟨o2,ho2,hp⟩:=hLP.get hxL
      obtain rfl:o=o2:=Option.some.inj (ho.symm.trans ho2)
      clear ho2
      have hg:=(hL.gd o (List.mem_of_getElem? ho)).1
      obtain⟨q1,q2,q3⟩:=hL.get' ho
      have h1:=h.2 _ hxr'
      rw[MN (o:=Ht σ L p (σ.idxOf x) o) (by simpa using q3) hg] at h1
      obtain⟨v,hy,hk⟩:=NQ (ops:=l.toArray) (o:=o) hp hg hQ.out h1
      have ho2:l.toArray[x]?=some o:=by simpa using ho
      refine wpAny_first ho2 (Region.noSelect_spec hL.ns) (fun c a w hq=>hQ.pan c a o.dst v w hq) m listed a w (fun j oj hj hne hun hno=>Region.free_spec ho2 hfree j oj hj hne ?_ hno) hxr hy ?_
      · have hjl:j<l.length:=by simpa using(Array.getElem?_eq_some_iff.1 hj).1
        have e:(ZC l x).getD j true=E4 l (l.length+1) x j:=by simp[ZC,hjl]
        rw[e]
        cases hq:E4 l (l.length+1) x j with
        | false=>rfl
        | true =>
          obtain⟨_,o2,ho3,hall⟩:=mem_ready.1 hxr
          have h2:=HC hcl _ x o2 (by simpa using ho3) hall hq
          rw[AO (by rw[hs];exact hjl),h2] at hun
          cases hun
      · have hst:=step _ q1
        rw[q2] at hst
        exact ih _ _ _ _ (by simpa using hs) (by simpa using hs') hst (cl' x hxr) hk
    · refine⟨fun h0=>h.1 (List.eq_nil_iff_forall_not_mem.2 fun q hq=>?_),fun i hi=>?_⟩
      · have:=B listed listed' hs hs' hrel q hq
        rw[h0] at this
        cases this
      · have hq:=(A listed listed' hs hs' hrel hcl i hi).resolve_right hx
        obtain⟨_,o,ho,_⟩:=mem_ready.1 hi
        have ho2:l[i]?=some o:=by simpa using ho
        have hg:=(hL.gd o (List.mem_of_getElem? ho2)).1
        obtain⟨q1,q2,q3⟩:=hL.get' ho2
        have h1:=h.2 _ hq
        rw[MN (o:=Ht σ L p (σ.idxOf i) o) (by simpa using q3) hg] at h1
        rw[MN ho hg]
        have hst:=step _ q1
        rw[q2] at hst
        refine h1.imp (fun h2=>Oper.wp_mono (fun a' w' hk=>ih _ _ a' w' (by simpa using hs) (by simpa using hs') hst (cl' i hi) hk) (show o.wp P a w _ Q from h2)) id
variable {n:Nat}{env:List (Nat × Value)}{W:World}{own:List Asn}
theorem AR.reo {l':List Oper}{o:Oper}{K:Value→List Asn→Prop}{q:Nat}(hg:o.guard=none)(h:AR P l o n env W own K):AR P l' (Ht σ L p q o) n env W own K:=fun a w next Q hf hs hk=>by
  have:=h a w next Q hf hs hk
  rw[if_pos (by simp[Region.wanted,hg])] at this
  rw[if_pos (by simp[Region.wanted,Ht,hg])]
  exact this
theorem As.reo {l':List Oper}{its:List PIt}:∀ {ts:List PIt} {os:List Oper} {i q:Nat},(∀ o∈os,o.guard=none)→As P l its n env W own i ts os→As P l' its n env W own i ts (reoGo σ L p q os)
  | [],_,_,_,_,_=>trivial
  | _::_,[],_,_,_,h=>h.elim
  | t::ts,o::os,i,q,hg,h=>⟨fun θ R hd=>AR.reo (hg o (by simp)) (h.1 θ R hd),As.reo (fun o ho=>hg o (by simp[ho])) h.2⟩
theorem Kg {ops ops':Array Oper}:∀ {rest:List Oper} (q:Nat),(∀ o∈rest,o.guard=none)→∀ {a:Act} {w:World},wpList P ops Q rest a w→wpList P ops' Q (reoGo σ L p q rest) a w
  | [],_,_,_,_,h=>h
  | o::rest,q,hg,a,w,h=>by
    have hg0:=hg o (by simp)
    unfold wpList at h
    rw[if_pos (by simp[Region.wanted,hg0])] at h
    unfold reoGo wpList
    rw[if_pos (by simp[Region.wanted,Ht,hg0])]
    exact h.imp (fun h2=>show o.wp P a w _ Q from Oper.wp_mono (fun a' w' hk=>Kg (q+1) (fun o ho=>hg o (by simp[ho])) hk) h2) id
theorem GC.late {id:Nat}(σ L:List Nat)(its:List PIt)(hm:P.follows .mixedOrders=true)(hQ:PanQ Q)(hlate:VE l σ L its.length=true)(hLP:dz P l L)(hpar:U1 n (reo l σ L its.length) its env=true)(hop:As P l its n env W own 0 its (C2 l σ))
    (hrest:∀ θ,Km θ its→G P l.toArray Q ((C2 l σ).drop its.length) n (Em its θ 0 its++env) W (Ez its θ 0 its++own)):GC P (.region id l.toArray true) Q n env W own:=fun a w hf hs=>by
  have hL:=Late.of hlate
  have hgp:∀ o∈C2 l σ,o.guard=none:=fun o ho=>by
    obtain⟨i,_,hi⟩:=List.mem_filterMap.1 ho
    exact(hL.gd o (List.mem_of_getElem? hi)).1
  have h:=Qu (Q:=Q) (P:=P) (own:=own) (W:=W) hpar (As.reo hgp hop) (fun θ hall a w hf hs=>by
    rw[show (reo l σ L its.length).drop its.length=reoGo σ L its.length (0+its.length) ((C2 l σ).drop its.length) from Ka 0 its.length]
    exact Kg _ (fun o ho=>hgp o (List.mem_of_mem_drop ho)) (hrest θ hall a w hf hs)) a w hf hs
  have e:(reo l σ L its.length).toArray.size=l.toArray.size:=by simp[hL.rlen]
  rw[e] at h
  exact wp_region_any hm (Tu hL hLP hQ _ _ _ a _ (by simp) (by simp) (fun q hq=>by rw[CM,CM]) (fun k o _ hk=>by rw[CM] at hk;cases hk) h)
end
end Go.Proofs.YtbmnnbglipkidaaGreatDoor
