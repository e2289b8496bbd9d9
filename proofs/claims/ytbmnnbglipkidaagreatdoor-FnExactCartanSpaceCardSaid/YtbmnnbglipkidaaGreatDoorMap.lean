/-
  Maps that a call owns: what they hold is a plain list of keys and values, in the order in which they came.
-/
import Derived.Test.YtbmnnbglipkidaaGreatDoorZ12
import Derived.MapKept
namespace Go.Proofs.YtbmnnbglipkidaaGreatDoor
set_option linter.unusedVariables false
set_option linter.unusedSimpArgs false
open Go.RowKit
section
variable {α β:Type}[DecidableEq α]
def alu (k:α):List (α × β)→Option β
  | []=>none
  | (a,b)::t=>if k=a then some b else alu k t
def aup (k:α)(v:β):List (α × β)→List (α × β)
  | []=>[(k,v)]
  | (a,b)::t=>if k=a then(a,v)::t else(a,b)::aup k v t
def afind (k:α):List (α × β)→Nat→Option (Nat × β)
  | [],_=>none
  | (a,b)::t,i=>if k=a then some (i,b) else afind k t (i+1)
def apos (k:α):List (α × β)→Nat
  | []=>0
  | (a,_)::t=>if k=a then 0 else apos k t+1
theorem afind_alu (k:α):∀ (l:List (α × β)) (i:Nat),(afind k l i).map (·.2)=alu k l
  | [],_=>rfl
  | (a,b)::t,i=>by
    rw[afind,alu]
    split
    · rfl
    · exact afind_alu k t (i+1)
theorem alu_aup (k j:α)(v:β):∀ l:List (α × β),alu j (aup k v l)=if j=k then some v else alu j l
  | []=>by simp[aup,alu]
  | (a,b)::t=>by
    rw[aup]
    split
    · rename_i hn
      subst hn
      rw[alu,alu]
      split <;> rfl
    · rename_i hn
      rw[alu,alu,alu_aup k j v t]
      split
      · rename_i hj
        rw[if_neg (fun e=>hn (e.symm.trans hj))]
      · rfl
end
structure KeyE (P:Program)(kt:TypeId){α:Type}[DecidableEq α](kE:α→Value):Prop where
  desc:∃ d,P.underlying kt=some d∧(∀ a,MapKept.IsKey d (kE a))∧∀ a b,Instr.sameNow d (kE a) (kE b)=some (decide (a=b))
  bits:∀ a,Instr.sameBits 10000 (kE a) (kE a)=true
def keyL (x:List Int):Value := .string (fmtB x)
def valI (x:Int):Value := .int .i64 x
theorem ba_beq (a b:ByteArray):(a==b)=decide (a=b):=by
  cases a with | mk x =>
  cases b with | mk y =>
  show (x==y)=_
  by_cases h:x=y <;> simp[h]
theorem keyL_E {P:Program}{kt:TypeId}(h:P.underlying kt=some .string):KeyE P kt keyL :=
  ⟨⟨_,h,fun _=>trivial,fun a b=>by
    show some (fmtB a==fmtB b)=_
    rw[ba_beq]
    exact congrArg some (decide_eq_decide.2 (fmtB_eq a b))⟩,fun a=>by
    show (fmtB a==fmtB a)=true
    rw[ba_beq,decide_eq_true rfl]⟩
section
variable {α β:Type}[DecidableEq α](kE:α→Value)(vE:β→Value)
def mEnt:Nat→List (α × β)→List MapEntry
  | _,[]=>[]
  | n,(a,b)::t=>⟨kE a,vE b,n⟩::mEnt (n+1) t
omit [DecidableEq α] in
theorem mEnt_app:∀ (n:Nat) (l r:List (α × β)),mEnt kE vE n (l++r)=mEnt kE vE n l++mEnt kE vE (n+l.length) r
  | n,[],r=>by simp[mEnt]
  | n,(a,b)::t,r=>by
    rw[List.cons_append,mEnt,mEnt,mEnt_app (n+1) t r,List.cons_append,List.length_cons]
    congr 3
    omega
def mapA (g:Nat)(l:List (α × β)):Asn where
  p F w:=(∀ k,F k↔k=g)∧w.heap[g]?=some (.map (mEnt kE vE 0 l).toArray l.length)
  loc h hw:=⟨h.1,(hw g ((h.1 g).2 rfl)).trans h.2⟩
variable {kE vE}{P:Program}{kt:TypeId}
theorem findNow_ent {d:TypeDesc}(hs:∀ a b,Instr.sameNow d (kE a) (kE b)=some (decide (a=b)))(k:α):∀ (l:List (α × β)) (n i:Nat),Instr.findNow d (kE k) (mEnt kE vE n l) i=some ((afind k l i).map fun p=>(p.1,vE p.2))
  | [],_,_=>rfl
  | (a,b)::t,n,i=>by
    rw[mEnt,afind]
    by_cases h:k=a
    · simp[Instr.findNow,hs,h]
    · simp[Instr.findNow,hs,h,findNow_ent hs k t]
theorem afind_none (k:α):∀ {l:List (α × β)} {i:Nat},afind k l i=none→alu k l=none∧∀ v,aup k v l=l++[(k,v)]
  | [],_,_=>⟨rfl,fun _=>rfl⟩
  | (a,b)::t,i,h=>by
    rw[afind] at h
    split at h
    · cases h
    · rename_i hn
      obtain⟨h1,h2⟩:=afind_none k h
      exact⟨by rw[alu,if_neg hn,h1],fun v=>by rw[aup,if_neg hn,h2];rfl⟩
theorem afind_some (k:α):∀ {l:List (α × β)} {i j:Nat} {b:β},afind k l i=some (j,b)→i≤j∧j - i=apos k l∧j - i<l.length∧alu k l=some b ∧
    ∀ n,(∃ e,(mEnt kE vE n l)[j - i]?=some e∧e.key=kE k∧e.born=n+(j - i))∧∀ (v:β),(mEnt kE vE n l).modify (j - i) (fun e=>{ e with key:=kE k,val:=vE v })=mEnt kE vE n (aup k v l)∧(mEnt kE vE n l).modify (j - i) (fun e=>{ e with key:=kE k })=mEnt kE vE n l∧(aup k v l).length=l.length
  | [],_,_,_,h=>by cases h
  | (a,b)::t,i,j,c,h=>by
    rw[afind] at h
    split at h
    · rename_i hk
      simp only[Option.some.injEq,Prod.mk.injEq] at h
      obtain⟨rfl,rfl⟩:=h
      subst hk
      refine⟨Nat.le_refl _,by simp[apos],by simp,by simp[alu],fun n=>⟨⟨⟨kE k,vE b,n⟩,by simp[mEnt],rfl,by simp⟩,fun v=>?_⟩⟩
      rw[aup,if_pos rfl,mEnt,mEnt,Nat.sub_self]
      exact⟨rfl,rfl,rfl⟩
    · rename_i hn
      obtain⟨h1,h2,h3,h4,h5⟩:=afind_some k h
      have e:j - i=(j - (i+1))+1:=by omega
      refine⟨by omega,by rw[apos,if_neg hn,← h2,e],by rw[List.length_cons];omega,by rw[alu,if_neg hn,h4],fun n=>?_⟩
      obtain⟨⟨x,x1,x2,x3⟩,h6⟩:=h5 (n+1)
      refine⟨⟨x,by rw[e,mEnt,List.getElem?_cons_succ];exact x1,x2,by omega⟩,fun v=>?_⟩
      obtain⟨y1,y2,y3⟩:=h6 v
      rw[aup,if_neg hn,mEnt,mEnt,e]
      exact⟨by rw[List.modify_succ_cons,y1],by rw[List.modify_succ_cons,y2],by rw[List.length_cons,List.length_cons,y3]⟩
end
section
variable {P:Program}{o:Oper}{n:Nat}{env:List (Nat × Value)}{W:World}{own:List Asn}
variable {α β:Type}[DecidableEq α]{kE:α→Value}{vE:β→Value}{t kt e g i:Nat}{x y:Operand}{l:List (α × β)}{k:α}{z:β}
structure MT (P:Program)(t kt e:TypeId)(z:Value):Prop where
  ht:P.underlying t=some (.map kt e)
  hz:∀ w,(zeroValue e).run P w = .ok z w
omit [DecidableEq α] in
theorem St.map {w:World}(h:St W w own)(hi:own[i]?=some (mapA kE vE g l)):w.heap[g]?=some (.map (mEnt kE vE 0 l).toArray l.length):=by
  obtain⟨_,_,_,F,_,hH⟩:=h
  obtain⟨F1,_,h1⟩:=hH.get hi
  exact h1.2
def MapIs (kE:α→Value)(vE:β→Value)(g:Nat)(l:List (α × β))(w:World):Prop:=w.heap[g]?=some (.map (mEnt kE vE 0 l).toArray l.length)
omit [DecidableEq α] in
theorem Ent.map (h:own[i]?=some (mapA kE vE g l)):Ent own (MapIs kE vE g l):=fun _ _ hs=>hs.map h
omit [DecidableEq α] in
theorem OG.makeMap (kE:α→Value)(vE:β→Value){r:Option Operand}(hop:o.op = .makeMap t r)(hr:r=none):OG P o n env W own fun v own'=>∃ g,v = .map (some g)∧own'=mapA kE vE g []::own:=fun a w next Q hf hs hk=>by
  subst hr
  have hr:(execOp a.eval o).run P w = .ok (.value (.map (some w.heap.size))) (w.alloc (.map #[] 0)):=by
    simp only[execOp,hop]
    refine run_val ?_
    simp[Instr.makeMap]
  unfold Oper.wp
  rw[hr]
  exact hk _ _ _ ⟨_,rfl,rfl⟩ (hs.push ((Below.refl _ _).alloc (Nat.le_refl _) _) (mapA kE vE w.heap.size []) (fun k=>k=w.heap.size) ⟨fun _=>Iff.rfl,heap_alloc_new w _⟩ fun g hg=>by subst hg;simp)
theorem run_look {w:World}(m:MT P t kt e (vE z))(K:KeyE P kt kE)(hb:w.heap[g]?=some (.map (mEnt kE vE 0 l).toArray l.length))(c:Bool) :
    (Instr.lookup t (.map (some g)) (kE k) c).run P w = .ok (if c then .tuple #[vE ((alu k l).getD z),.bool (alu k l).isSome] else vE ((alu k l).getD z)) w:=by
  obtain⟨d,hd,hK,hS⟩:=K.desc
  have h1:=MapKept.run_findKey (P:=P) (w:=w) (k:=kE k) hd (findNow_ent (vE:=vE) hS k l 0 0)
  simp only[Instr.lookup,Sem.run_bind,run_underlying m.ht,Result.andThen_ok,MapKept.run_getObj_map hb,Sem.run_pure,MapKept.run_checkKey hd (hK k),h1]
  rw[← afind_alu k l 0]
  cases afind k l 0 with
  | none =>
    simp only[Option.map_none,Sem.run_bind,m.hz,Result.andThen_ok,Sem.run_pure,Option.getD_none,Option.isSome_none]
  | some p =>
    obtain⟨j,b⟩:=p
    simp only[Option.map_some,Sem.run_bind,Result.andThen_ok,Sem.run_pure,Option.getD_some,Option.isSome_some]
theorem OD.lookup (hop:o.op = .lookup t x y false)(m:MT P t kt e (vE z))(K:KeyE P kt kE)(hx:ev env x=some (.map (some g)))(hy:ev env y=some (kE k))(hi:Ent own (MapIs kE vE g l)):OD P o n env W own (vE ((alu k l).getD z)) own :=
  .of fun a w hf hs=>by
    simp only[execOp,hop,hf.ev hx,hf.ev hy]
    exact run_val (run_look m K (hi W w hs) false)
theorem OD.lookupOk (hop:o.op = .lookup t x y true)(m:MT P t kt e (vE z))(K:KeyE P kt kE)(hx:ev env x=some (.map (some g)))(hy:ev env y=some (kE k))(hi:Ent own (MapIs kE vE g l)):OD P o n env W own (.tuple #[vE ((alu k l).getD z),.bool (alu k l).isSome]) own :=
  .of fun a w hf hs=>by
    simp only[execOp,hop,hf.ev hx,hf.ev hy]
    exact run_val (run_look m K (hi W w hs) true)
omit [DecidableEq α] in
theorem map_turn {w:World}{l':List (α × β)}(hs:St W w own)(hi:own[i]?=some (mapA kE vE g l))(o':Obj)(ho:o' = .map (mEnt kE vE 0 l').toArray l'.length):St W { w with heap:=w.heap.setIfInBounds g o' } (own.set i (mapA kE vE g l')):=by
  obtain⟨F1,⟨f0,f1⟩,f2,f3⟩:=hs.upd hi
  have hg:g<w.heap.size:=f2 _ ((f0 _).2 rfl)
  subst ho
  refine f3 _ _ (fun k=>k=g) rfl rfl rfl (by simp) ⟨fun _=>Iff.rfl,by simp[hg]⟩ (fun k _ hk=>?_) fun k hk=>?_
  · have hne:g≠k:=fun e=>hk ((f0 k).2 e.symm)
    simp[Array.getElem?_setIfInBounds_ne hne]
  · subst hk
    exact⟨.inl ((f0 _).2 rfl),by simpa using hg⟩
theorem run_upd {w:World}(ht:P.underlying t=some (.map kt e))(K:KeyE P kt kE)(hb:w.heap[g]?=some (.map (mEnt kE vE 0 l).toArray l.length))(b:β) :
    (Instr.mapUpdate t (.map (some g)) (kE k) (vE b)).run P w = .ok () { w with heap:=w.heap.setIfInBounds g (.map (mEnt kE vE 0 (aup k b l)).toArray (aup k b l).length) }:=by
  obtain⟨d,hd,hK,hS⟩:=K.desc
  have h1:=MapKept.run_findKey (P:=P) (w:=w) (k:=kE k) hd (findNow_ent (vE:=vE) hS k l 0 0)
  simp only[Instr.mapUpdate,Sem.run_bind,run_underlying ht,Result.andThen_ok,MapKept.run_getObj_map hb,MapKept.run_checkKey hd (hK k),h1]
  cases h:afind k l 0 with
  | none =>
    obtain⟨_,h2⟩:=afind_none k h
    simp only[Option.map_none]
    rw[MapKept.run_setObj_map _ hb,h2 b,mEnt_app]
    simp[mEnt]
  | some p =>
    obtain⟨j,c⟩:=p
    obtain⟨_,_,_,_,h5⟩:=afind_some (kE:=kE) (vE:=vE) k h
    obtain⟨⟨x,x1,x2,_⟩,h6⟩:=h5 0
    obtain⟨y1,_,y3⟩:=h6 b
    simp only[Nat.sub_zero] at x1 y1
    simp only[Option.map_some]
    have e1:((mEnt kE vE 0 l).toArray[j]?)=some x:=by simpa using x1
    simp only[e1,Option.map_some,Option.getD_some,x2,Instr.keyThatStays,K.bits,if_true,Sem.run_bind,Sem.run_pure,Result.andThen_ok]
    rw[MapKept.run_setObj_map _ hb,List.modify_toArray,y1,y3]
theorem OD.mapUpdate {u:Operand}{b:β}(hop:o.op = .mapUpdate t x y u)(ht:P.underlying t=some (.map kt e))(K:KeyE P kt kE)(hx:ev env x=some (.map (some g)))(hy:ev env y=some (kE k))(hu:ev env u=some (vE b))(hi:own[i]?=some (mapA kE vE g l)):OD P o n env W own undef (own.set i (mapA kE vE g (aup k b l))):=fun a w next Q hf hs hk=>by
  have hr:(execOp a.eval o).run P w = .ok .skip { w with heap:=w.heap.setIfInBounds g (.map (mEnt kE vE 0 (aup k b l)).toArray (aup k b l).length) }:=by
    simp[execOp,hop,hf.ev hx,hf.ev hy,hf.ev hu,run_upd ht K (hs.map hi) b]
  unfold Oper.wp
  rw[hr]
  exact hk _ _ _ ⟨rfl,rfl⟩ (map_turn hs hi _ rfl)
end
end Go.Proofs.YtbmnnbglipkidaaGreatDoor
