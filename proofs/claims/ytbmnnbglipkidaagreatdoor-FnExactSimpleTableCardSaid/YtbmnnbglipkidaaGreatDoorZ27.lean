/-
  strings.Split at "+" and strings.Join, each by its contract in the words of XSep.
-/
import Derived.Test.YtbmnnbglipkidaaGreatDoorZ21
import Derived.Lib.ItoaLen
import Derived.MapKept
namespace Go.Proofs.YtbmnnbglipkidaaGreatDoor
set_option linter.unusedVariables false
set_option linter.unusedSimpArgs false
open Go.RowKit
def plusSplit (s:ByteArray):List ByteArray:=Lib.splitB ⟨#[43]⟩ 0 (Lib.countB s ⟨#[43]⟩) s
theorem plusSplit_len (s:ByteArray):(plusSplit s).length=Lib.countB s ⟨#[43]⟩+1:=Lib.splitB_all ⟨#[43]⟩ (by decide) 0 _ s rfl
def joinP (xs:List ByteArray):ByteArray:=⟨(Lib.join (xs.map (·.data.toList)) [43]).toArray⟩
theorem split_w {W:World}{own:List Asn}(s:ByteArray)(hg:Ent own fun w=>∃ m,w.cell? ⟨Tryz.l146_ren.g 1,0,none⟩=some (.int .i64 m))(hs:s.size<4294967281) :
    Spec Tryz.prog 184 [.string s,.string ⟨#[43]⟩] W own fun v ow=>∃ r0:Value,v=r0∧IsS r0∧ow=strs 9 r0 (plusSplit s)::own:=fun w hst=>by
  obtain⟨m,hm⟩:=hg W w hst
  have h:=Any.strings_Split { Tryz.l146 with } Tryz.l146.i9 s ⟨#[43]⟩ m w hs hm (by decide)
  refine h.mono fun e w' ⟨he,hw⟩=>?_
  have hl:=plusSplit_len s
  have hcs:((plusSplit s).map Value.string).length=(Lib.countB s ⟨#[43]⟩+1)*1:=by rw[List.length_map,hl,Nat.mul_one]
  have hcb:=Lib.countB_le ⟨#[43]⟩ (by decide) s.size s (Nat.le_refl _)
  subst hw
  refine⟨_,_,he,⟨_,rfl,⟨_,_,_,rfl⟩,rfl⟩,?_⟩
  refine row_push hst (.inr ⟨by simp,w.heap.size,Lib.countB s ⟨#[43]⟩+1,((plusSplit s).map Value.string).toArray,by rw[hl],Nat.le_refl _,heap_alloc_new w _,by omega,by simp only[maxLen];omega,by simpa using hl,?_⟩) ((Below.refl _ _).alloc (Nat.le_refl _) _)
  rw[List.take_of_length_le (by simp[hl])]
theorem join_w {W:World}{own:List Asn}{v:Value}{xs:List ByteArray}(_:IsS v)(hv:Ent own fun w=>Strs w v xs)(hl:(joinP xs).size≤140737488355328)(hN:xs.length≤140737488355328) :
    Spec Tryz.prog 153 [v,.string ⟨#[43]⟩] W own fun u ow=>u = .string (joinP xs)∧ow=own:=Spec.below fun w hst=>by
  obtain⟨_,ao,cap,rfl,h1,_,_,h4⟩:=hv W w hst
  cases xs with
  | nil=>exact(Any.strings_Join_none Tryz.l156 Tryz.x156 ao cap ⟨#[43]⟩ w).mono fun e w' ⟨he,hw⟩=>⟨he,hw ▸ Below.refl _ _⟩
  | cons x r =>
    obtain⟨b,o,rfl,hb,hc⟩:=h4 (by simp)
    refine Any.strings_Join Tryz.l156 Tryz.x156 b o cap (x::r) ⟨#[43]⟩ w (fun j y hy=>?_) hb hN h1 (by simpa [joinP,ByteArray.size] using hl)
    have hj:j<(x::r).length:=(List.getElem?_eq_some_iff.1 hy).1
    rw[hc j (by omega)]
    simp only[List.getD,List.getElem?_map,hy]
    rfl
end Go.Proofs.YtbmnnbglipkidaaGreatDoor
namespace Go.Proofs.YtbmnnbglipkidaaGreatDoor
set_option linter.unusedVariables false
set_option linter.unusedSimpArgs false
def dval (l:List UInt8):Nat:=l.foldl (fun a b=>a*10+(b.toNat - 48)) 0
theorem dval_snoc (l:List UInt8)(b:UInt8):dval (l++[b])=dval l*10+(b.toNat - 48):=by simp[dval]
theorem dig_byte {k:Nat}(h:k<10):(UInt8.ofNat (48+k)).toNat=48+k:=by
  rw[UInt8.toNat_ofNat']
  omega
theorem decDigits_val (u:Nat):dval (Lib.decDigits u)=u∧(∀ b∈Lib.decDigits u,48≤b.toNat∧b.toNat≤57):=by
  induction u using Nat.strongRecOn with
  | _ u ih =>
    by_cases h:u<10
    · rw[Lib.decDigits,dif_pos h]
      refine⟨?_,fun b hb=>?_⟩
      · show 0*10+((UInt8.ofNat (48+u)).toNat - 48)=u
        rw[dig_byte h]
        omega
      · simp only[List.mem_singleton] at hb
        subst hb
        rw[dig_byte h]
        omega
    · rw[Lib.decDigits,dif_neg h]
      obtain⟨h1,h2⟩:=ih (u / 10) (by omega)
      refine⟨?_,fun b hb=>?_⟩
      · rw[dval_snoc,h1,dig_byte (Nat.mod_lt _ (by omega))]
        omega
      · rcases List.mem_append.1 hb with hb | hb
        · exact h2 b hb
        · simp only[List.mem_singleton] at hb
          subst hb
          rw[dig_byte (Nat.mod_lt _ (by omega))]
          omega
theorem decDigits_ne (u:Nat):Lib.decDigits u≠[]:=by
  rw[Lib.decDigits]
  split <;> simp
theorem itoa_rng (n:Int):∀ b∈Lib.itoa n,b.toNat≠32∧b.toNat≠44:=by
  intro b hb
  unfold Lib.itoa at hb
  split at hb
  · rcases List.mem_cons.1 hb with rfl | hb
    · decide
    · have:=(decDigits_val _).2 b hb
      omega
  · have:=(decDigits_val _).2 b hb
    omega
theorem itoa_inj {m n:Int}(h:Lib.itoa m=Lib.itoa n):m=n:=by
  have hd:∀ {u v:Nat},Lib.decDigits u=Lib.decDigits v→u=v:=fun {u v} e=>by rw[← (decDigits_val u).1,e,(decDigits_val v).1]
  have hn:∀ {u v:Nat},(45:UInt8)::Lib.decDigits u≠Lib.decDigits v:=fun {u v} e=>by
    have:=(decDigits_val v).2 45 (by rw[← e];simp)
    simp at this
  unfold Lib.itoa at h
  split at h <;> split at h
  · have:=hd (List.cons.inj h).2
    omega
  · exact absurd h hn
  · exact absurd h.symm hn
  · have:=hd h
    omega
theorem cut_eq {c:UInt8}:∀ {a b s t:List UInt8},(∀ x∈a,x≠c)→(∀ x∈b,x≠c)→(s = []∨∃ r,s=c::r)→(t = []∨∃ r,t=c::r)→a++s=b++t→a=b∧s=t
  | [],[],s,t,_,_,_,_,h=>⟨rfl,h⟩
  | [],y::b,s,t,_,hb,hs,_,h=>by
    rcases hs with rfl | ⟨r,rfl⟩
    · simp at h
    · simp only[List.nil_append,List.cons_append,List.cons.injEq] at h
      exact absurd h.1.symm (hb y (by simp))
  | x::a,[],s,t,ha,_,_,ht,h=>by
    rcases ht with rfl | ⟨r,rfl⟩
    · simp at h
    · simp only[List.nil_append,List.cons_append,List.cons.injEq] at h
      exact absurd h.1 (ha x (by simp))
  | x::a,y::b,s,t,ha,hb,hs,ht,h=>by
    simp only[List.cons_append,List.cons.injEq] at h
    obtain⟨e1,e2⟩:=cut_eq (fun z hz=>ha z (by simp[hz])) (fun z hz=>hb z (by simp[hz])) hs ht h.2
    exact⟨by rw[h.1,e1],e2⟩
def fmtL (xs:List Int):List UInt8:=Lib.join (xs.map Lib.itoa) [32]
def fmtB (xs:List Int):ByteArray:=⟨(fmtL xs).toArray⟩
def itoaB (n:Int):ByteArray:=⟨(Lib.itoa n).toArray⟩
theorem tail_form (r:List (List UInt8)):Lib.joinTail [32] r = []∨∃ q,Lib.joinTail [32] r=32::q:=by
  cases r with
  | nil=>exact .inl rfl
  | cons x r=>exact .inr ⟨x++Lib.joinTail [32] r,by simp[Lib.joinTail]⟩
theorem tail_inj:∀ {xs ys:List Int},Lib.joinTail [32] (xs.map Lib.itoa)=Lib.joinTail [32] (ys.map Lib.itoa)→xs=ys
  | [],[],_=>rfl
  | [],y::ys,h=>by simp[Lib.joinTail] at h
  | x::xs,[],h=>by simp[Lib.joinTail] at h
  | x::xs,y::ys,h=>by
    have h':Lib.itoa x++Lib.joinTail [32] (xs.map Lib.itoa)=Lib.itoa y++Lib.joinTail [32] (ys.map Lib.itoa):=by simpa [Lib.joinTail] using h
    obtain⟨e1,e2⟩:=cut_eq (c:=32) (fun z hz e=>(itoa_rng x z hz).1 (by rw[e];rfl)) (fun z hz e=>(itoa_rng y z hz).1 (by rw[e];rfl)) (tail_form _) (tail_form _) h'
    rw[itoa_inj e1,tail_inj e2]
theorem itoa_ne (n:Int):Lib.itoa n≠[]:=by
  unfold Lib.itoa
  split
  · simp
  · exact decDigits_ne _
theorem fmtL_inj {xs ys:List Int}(h:fmtL xs=fmtL ys):xs=ys:=by
  unfold fmtL at h
  cases xs with
  | nil =>
    cases ys with
    | nil=>rfl
    | cons y ys =>
      rw[List.map_cons,Lib.join_cons] at h
      have:Lib.itoa y++Lib.joinTail [32] (ys.map Lib.itoa) = []:=h.symm
      exact absurd (List.append_eq_nil_iff.1 this).1 (itoa_ne y)
  | cons x xs =>
    cases ys with
    | nil =>
      rw[List.map_cons,Lib.join_cons] at h
      have:Lib.itoa x++Lib.joinTail [32] (xs.map Lib.itoa) = []:=h
      exact absurd (List.append_eq_nil_iff.1 this).1 (itoa_ne x)
    | cons y ys =>
      rw[List.map_cons,Lib.join_cons,List.map_cons,Lib.join_cons] at h
      have h':Lib.itoa x++Lib.joinTail [32] (xs.map Lib.itoa)=Lib.itoa y++Lib.joinTail [32] (ys.map Lib.itoa):=h
      obtain⟨e1,e2⟩:=cut_eq (c:=32) (fun z hz e=>(itoa_rng x z hz).1 (by rw[e];rfl)) (fun z hz e=>(itoa_rng y z hz).1 (by rw[e];rfl)) (tail_form _) (tail_form _) h'
      rw[itoa_inj e1,tail_inj e2]
theorem fmtB_inj {xs ys:List Int}(h:fmtB xs=fmtB ys):xs=ys:=by
  refine fmtL_inj ?_
  have:=congrArg (fun b:ByteArray=>b.data.toList) h
  simpa [fmtB] using this
theorem fmtB_eq (xs ys:List Int):fmtB xs=fmtB ys↔xs=ys:=⟨fmtB_inj,fun h=>by rw[h]⟩
theorem fmtB_join (xs:List Int):(⟨(Lib.join ((xs.map itoaB).map (·.data.toList)) [32]).toArray⟩:ByteArray)=fmtB xs:=by
  unfold fmtB fmtL
  rw[List.map_map]
  rfl
theorem tail_len:∀ (xs:List Int),(∀ x∈xs, -9223372036854775808≤x∧x≤9223372036854775807)→(Lib.joinTail [32] (xs.map Lib.itoa)).length≤22*xs.length
  | [],_=>by simp[Lib.joinTail]
  | x::xs,h=>by
    have e:Lib.joinTail [32] ((x::xs).map Lib.itoa) = [32]++(Lib.itoa x++Lib.joinTail [32] (xs.map Lib.itoa)):=by simp[Lib.joinTail]
    have h1:=Lib.itoa_length_le x (h x (by simp)).1 (h x (by simp)).2
    have h2:=tail_len xs fun y hy=>h y (by simp[hy])
    rw[e,List.length_append,List.length_append,List.length_cons,List.length_nil,List.length_cons]
    omega
theorem fmtB_size {xs:List Int}(h:∀ x∈xs, -9223372036854775808≤x∧x≤9223372036854775807):(fmtB xs).size≤22*xs.length:=by
  show (fmtL xs).toArray.size≤_
  rw[List.size_toArray]
  cases xs with
  | nil=>simp[fmtL,Lib.join]
  | cons x xs =>
    have h1:=Lib.itoa_length_le x (h x (by simp)).1 (h x (by simp)).2
    have h2:=tail_len xs fun y hy=>h y (by simp[hy])
    have e:fmtL (x::xs)=Lib.itoa x++Lib.joinTail [32] (xs.map Lib.itoa):=by rw[fmtL,List.map_cons,Lib.join_cons]
    rw[e,List.length_append,List.length_cons]
    omega
end Go.Proofs.YtbmnnbglipkidaaGreatDoor
namespace Go.Proofs.YtbmnnbglipkidaaGreatDoor
set_option linter.unusedVariables false
set_option linter.unusedSimpArgs false
open Go.RowKit
section
variable {α β:Type}[DecidableEq α]
def alu (k:α):List (α × β)→Option β
  | []=>none
  | (a,b)::t=>if k=a then some b else alu k t
def aup (k:α)(v:β):List (α × β)→List (α × β)
  | []=>[(k,v)]
  | (a,b)::t=>if k=a then(a,v)::t else(a,b)::aup k v t
def afind (k:α):List (α × β)→Nat→Option (Nat × β)
  | [],_=>none
  | (a,b)::t,i=>if k=a then some (i,b) else afind k t (i+1)
def apos (k:α):List (α × β)→Nat
  | []=>0
  | (a,_)::t=>if k=a then 0 else apos k t+1
theorem afind_alu (k:α):∀ (l:List (α × β)) (i:Nat),(afind k l i).map (·.2)=alu k l
  | [],_=>rfl
  | (a,b)::t,i=>by
    rw[afind,alu]
    split
    · rfl
    · exact afind_alu k t (i+1)
theorem alu_aup (k j:α)(v:β):∀ l:List (α × β),alu j (aup k v l)=if j=k then some v else alu j l
  | []=>by simp[aup,alu]
  | (a,b)::t=>by
    rw[aup]
    split
    · rename_i hn
      subst hn
      rw[alu,alu]
      split <;> rfl
    · rename_i hn
      rw[alu,alu,alu_aup k j v t]
      split
      · rename_i hj
        rw[if_neg (fun e=>hn (e.symm.trans hj))]
      · rfl
end
structure KeyE (P:Program)(kt:TypeId){α:Type}[DecidableEq α](kE:α→Value):Prop where
  desc:∃ d,P.underlying kt=some d∧(∀ a,MapKept.IsKey d (kE a))∧∀ a b,Instr.sameNow d (kE a) (kE b)=some (decide (a=b))
  bits:∀ a,Instr.sameBits 10000 (kE a) (kE a)=true
def keyL (x:List Int):Value := .string (fmtB x)
def valI (x:Int):Value := .int .i64 x
theorem ba_beq (a b:ByteArray):(a==b)=decide (a=b):=by
  cases a with | mk x =>
  cases b with | mk y =>
  show (x==y)=_
  by_cases h:x=y <;> simp[h]
theorem keyL_E {P:Program}{kt:TypeId}(h:P.underlying kt=some .string):KeyE P kt keyL :=
  ⟨⟨_,h,fun _=>trivial,fun a b=>by
    show some (fmtB a==fmtB b)=_
    rw[ba_beq]
    exact congrArg some (decide_eq_decide.2 (fmtB_eq a b))⟩,fun a=>by
    show (fmtB a==fmtB a)=true
    rw[ba_beq,decide_eq_true rfl]⟩
section
variable {α β:Type}[DecidableEq α](kE:α→Value)(vE:β→Value)
def mEnt:Nat→List (α × β)→List MapEntry
  | _,[]=>[]
  | n,(a,b)::t=>⟨kE a,vE b,n⟩::mEnt (n+1) t
omit [DecidableEq α] in
theorem mEnt_app:∀ (n:Nat) (l r:List (α × β)),mEnt kE vE n (l++r)=mEnt kE vE n l++mEnt kE vE (n+l.length) r
  | n,[],r=>by simp[mEnt]
  | n,(a,b)::t,r=>by
    rw[List.cons_append,mEnt,mEnt,mEnt_app (n+1) t r,List.cons_append,List.length_cons]
    congr 3
    omega
def mapA (g:Nat)(l:List (α × β)):Asn where
  p F w:=(∀ k,F k↔k=g)∧w.heap[g]?=some (.map (mEnt kE vE 0 l).toArray l.length)
  loc h hw:=⟨h.1,(hw g ((h.1 g).2 rfl)).trans h.2⟩
variable {kE vE}{P:Program}{kt:TypeId}
theorem findNow_ent {d:TypeDesc}(hs:∀ a b,Instr.sameNow d (kE a) (kE b)=some (decide (a=b)))(k:α):∀ (l:List (α × β)) (n i:Nat),Instr.findNow d (kE k) (mEnt kE vE n l) i=some ((afind k l i).map fun p=>(p.1,vE p.2))
  | [],_,_=>rfl
  | (a,b)::t,n,i=>by
    rw[mEnt,afind]
    by_cases h:k=a
    · simp[Instr.findNow,hs,h]
    · simp[Instr.findNow,hs,h,findNow_ent hs k t]
theorem afind_none (k:α):∀ {l:List (α × β)} {i:Nat},afind k l i=none→alu k l=none∧∀ v,aup k v l=l++[(k,v)]
  | [],_,_=>⟨rfl,fun _=>rfl⟩
  | (a,b)::t,i,h=>by
    rw[afind] at h
    split at h
    · cases h
    · rename_i hn
      obtain⟨h1,h2⟩:=afind_none k h
      exact⟨by rw[alu,if_neg hn,h1],fun v=>by rw[aup,if_neg hn,h2];rfl⟩
theorem afind_some (k:α):∀ {l:List (α × β)} {i j:Nat} {b:β},afind k l i=some (j,b)→i≤j∧j - i=apos k l∧j - i<l.length∧alu k l=some b ∧
    ∀ n,(∃ e,(mEnt kE vE n l)[j - i]?=some e∧e.key=kE k∧e.born=n+(j - i))∧∀ (v:β),(mEnt kE vE n l).modify (j - i) (fun e=>{ e with key:=kE k,val:=vE v })=mEnt kE vE n (aup k v l)∧(mEnt kE vE n l).modify (j - i) (fun e=>{ e with key:=kE k })=mEnt kE vE n l∧(aup k v l).length=l.length
  | [],_,_,_,h=>by cases h
  | (a,b)::t,i,j,c,h=>by
    rw[afind] at h
    split at h
    · rename_i hk
      simp only[Option.some.injEq,Prod.mk.injEq] at h
      obtain⟨rfl,rfl⟩:=h
      subst hk
      refine⟨Nat.le_refl _,by simp[apos],by simp,by simp[alu],fun n=>⟨⟨⟨kE k,vE b,n⟩,by simp[mEnt],rfl,by simp⟩,fun v=>?_⟩⟩
      rw[aup,if_pos rfl,mEnt,mEnt,Nat.sub_self]
      exact⟨rfl,rfl,rfl⟩
    · rename_i hn
      obtain⟨h1,h2,h3,h4,h5⟩:=afind_some k h
      have e:j - i=(j - (i+1))+1:=by omega
      refine⟨by omega,by rw[apos,if_neg hn,← h2,e],by rw[List.length_cons];omega,by rw[alu,if_neg hn,h4],fun n=>?_⟩
      obtain⟨⟨x,x1,x2,x3⟩,h6⟩:=h5 (n+1)
      refine⟨⟨x,by rw[e,mEnt,List.getElem?_cons_succ];exact x1,x2,by omega⟩,fun v=>?_⟩
      obtain⟨y1,y2,y3⟩:=h6 v
      rw[aup,if_neg hn,mEnt,mEnt,e]
      exact⟨by rw[List.modify_succ_cons,y1],by rw[List.modify_succ_cons,y2],by rw[List.length_cons,List.length_cons,y3]⟩
end
section
variable {P:Program}{o:Oper}{n:Nat}{env:List (Nat × Value)}{W:World}{own:List Asn}
variable {α β:Type}[DecidableEq α]{kE:α→Value}{vE:β→Value}{t kt e g i:Nat}{x y:Operand}{l:List (α × β)}{k:α}{z:β}
structure MT (P:Program)(t kt e:TypeId)(z:Value):Prop where
  ht:P.underlying t=some (.map kt e)
  hz:∀ w,(zeroValue e).run P w = .ok z w
omit [DecidableEq α] in
theorem St.map {w:World}(h:St W w own)(hi:own[i]?=some (mapA kE vE g l)):w.heap[g]?=some (.map (mEnt kE vE 0 l).toArray l.length):=by
  obtain⟨_,_,_,F,_,hH⟩:=h
  obtain⟨F1,_,h1⟩:=hH.get hi
  exact h1.2
def MapIs (kE:α→Value)(vE:β→Value)(g:Nat)(l:List (α × β))(w:World):Prop:=w.heap[g]?=some (.map (mEnt kE vE 0 l).toArray l.length)
omit [DecidableEq α] in
theorem Ent.map (h:own[i]?=some (mapA kE vE g l)):Ent own (MapIs kE vE g l):=fun _ _ hs=>hs.map h
omit [DecidableEq α] in
theorem OG.makeMap (kE:α→Value)(vE:β→Value){r:Option Operand}(hop:o.op = .makeMap t r)(hr:r=none):OG P o n env W own fun v own'=>∃ g,v = .map (some g)∧own'=mapA kE vE g []::own:=fun a w next Q hf hs hk=>by
  subst hr
  have hr:(execOp a.eval o).run P w = .ok (.value (.map (some w.heap.size))) (w.alloc (.map #[] 0)):=by
    simp only[execOp,hop]
    refine run_val ?_
    simp[Instr.makeMap]
  unfold Oper.wp
  rw[hr]
  exact hk _ _ _ ⟨_,rfl,rfl⟩ (hs.push ((Below.refl _ _).alloc (Nat.le_refl _) _) (mapA kE vE w.heap.size []) (fun k=>k=w.heap.size) ⟨fun _=>Iff.rfl,heap_alloc_new w _⟩ fun g hg=>by subst hg;simp)
theorem run_look {w:World}(m:MT P t kt e (vE z))(K:KeyE P kt kE)(hb:w.heap[g]?=some (.map (mEnt kE vE 0 l).toArray l.length))(c:Bool) :
    (Instr.lookup t (.map (some g)) (kE k) c).run P w = .ok (if c then .tuple #[vE ((alu k l).getD z),.bool (alu k l).isSome] else vE ((alu k l).getD z)) w:=by
  obtain⟨d,hd,hK,hS⟩:=K.desc
  have h1:=MapKept.run_findKey (P:=P) (w:=w) (k:=kE k) hd (findNow_ent (vE:=vE) hS k l 0 0)
  simp only[Instr.lookup,Sem.run_bind,run_underlying m.ht,Result.andThen_ok,MapKept.run_getObj_map hb,Sem.run_pure,MapKept.run_checkKey hd (hK k),h1]
  rw[← afind_alu k l 0]
  cases afind k l 0 with
  | none =>
    simp only[Option.map_none,Sem.run_bind,m.hz,Result.andThen_ok,Sem.run_pure,Option.getD_none,Option.isSome_none]
  | some p =>
    obtain⟨j,b⟩:=p
    simp only[Option.map_some,Sem.run_bind,Result.andThen_ok,Sem.run_pure,Option.getD_some,Option.isSome_some]
theorem OD.lookup (hop:o.op = .lookup t x y false)(m:MT P t kt e (vE z))(K:KeyE P kt kE)(hx:ev env x=some (.map (some g)))(hy:ev env y=some (kE k))(hi:Ent own (MapIs kE vE g l)):OD P o n env W own (vE ((alu k l).getD z)) own :=
  .of fun a w hf hs=>by
    simp only[execOp,hop,hf.ev hx,hf.ev hy]
    exact run_val (run_look m K (hi W w hs) false)
theorem OD.lookupOk (hop:o.op = .lookup t x y true)(m:MT P t kt e (vE z))(K:KeyE P kt kE)(hx:ev env x=some (.map (some g)))(hy:ev env y=some (kE k))(hi:Ent own (MapIs kE vE g l)):OD P o n env W own (.tuple #[vE ((alu k l).getD z),.bool (alu k l).isSome]) own :=
  .of fun a w hf hs=>by
    simp only[execOp,hop,hf.ev hx,hf.ev hy]
    exact run_val (run_look m K (hi W w hs) true)
omit [DecidableEq α] in
theorem map_turn {w:World}{l':List (α × β)}(hs:St W w own)(hi:own[i]?=some (mapA kE vE g l))(o':Obj)(ho:o' = .map (mEnt kE vE 0 l').toArray l'.length):St W { w with heap:=w.heap.setIfInBounds g o' } (own.set i (mapA kE vE g l')):=by
  obtain⟨F1,⟨f0,f1⟩,f2,f3⟩:=hs.upd hi
  have hg:g<w.heap.size:=f2 _ ((f0 _).2 rfl)
  subst ho
  refine f3 _ _ (fun k=>k=g) rfl rfl rfl (by simp) ⟨fun _=>Iff.rfl,by simp[hg]⟩ (fun k _ hk=>?_) fun k hk=>?_
  · have hne:g≠k:=fun e=>hk ((f0 k).2 e.symm)
    simp[Array.getElem?_setIfInBounds_ne hne]
  · subst hk
    exact⟨.inl ((f0 _).2 rfl),by simpa using hg⟩
theorem run_upd {w:World}(ht:P.underlying t=some (.map kt e))(K:KeyE P kt kE)(hb:w.heap[g]?=some (.map (mEnt kE vE 0 l).toArray l.length))(b:β) :
    (Instr.mapUpdate t (.map (some g)) (kE k) (vE b)).run P w = .ok () { w with heap:=w.heap.setIfInBounds g (.map (mEnt kE vE 0 (aup k b l)).toArray (aup k b l).length) }:=by
  obtain⟨d,hd,hK,hS⟩:=K.desc
  have h1:=MapKept.run_findKey (P:=P) (w:=w) (k:=kE k) hd (findNow_ent (vE:=vE) hS k l 0 0)
  simp only[Instr.mapUpdate,Sem.run_bind,run_underlying ht,Result.andThen_ok,MapKept.run_getObj_map hb,MapKept.run_checkKey hd (hK k),h1]
  cases h:afind k l 0 with
  | none =>
    obtain⟨_,h2⟩:=afind_none k h
    simp only[Option.map_none]
    rw[MapKept.run_setObj_map _ hb,h2 b,mEnt_app]
    simp[mEnt]
  | some p =>
    obtain⟨j,c⟩:=p
    obtain⟨_,_,_,_,h5⟩:=afind_some (kE:=kE) (vE:=vE) k h
    obtain⟨⟨x,x1,x2,_⟩,h6⟩:=h5 0
    obtain⟨y1,_,y3⟩:=h6 b
    simp only[Nat.sub_zero] at x1 y1
    simp only[Option.map_some]
    have e1:((mEnt kE vE 0 l).toArray[j]?)=some x:=by simpa using x1
    simp only[e1,Option.map_some,Option.getD_some,x2,Instr.keyThatStays,K.bits,if_true,Sem.run_bind,Sem.run_pure,Result.andThen_ok]
    rw[MapKept.run_setObj_map _ hb,List.modify_toArray,y1,y3]
theorem OD.mapUpdate {u:Operand}{b:β}(hop:o.op = .mapUpdate t x y u)(ht:P.underlying t=some (.map kt e))(K:KeyE P kt kE)(hx:ev env x=some (.map (some g)))(hy:ev env y=some (kE k))(hu:ev env u=some (vE b))(hi:own[i]?=some (mapA kE vE g l)):OD P o n env W own undef (own.set i (mapA kE vE g (aup k b l))):=fun a w next Q hf hs hk=>by
  have hr:(execOp a.eval o).run P w = .ok .skip { w with heap:=w.heap.setIfInBounds g (.map (mEnt kE vE 0 (aup k b l)).toArray (aup k b l).length) }:=by
    simp[execOp,hop,hf.ev hx,hf.ev hy,hf.ev hu,run_upd ht K (hs.map hi) b]
  unfold Oper.wp
  rw[hr]
  exact hk _ _ _ ⟨rfl,rfl⟩ (map_turn hs hi _ rfl)
end
end Go.Proofs.YtbmnnbglipkidaaGreatDoor
