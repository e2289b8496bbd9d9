/-
  strings.Split at "+" and strings.Join, each by its contract in the words of XSep.
-/
import Derived.Test.YtbmnnbglipkidaaGreatDoorZ23
import Derived.Lib.ItoaLen
namespace Go.Proofs.YtbmnnbglipkidaaGreatDoor
set_option linter.unusedVariables false
set_option linter.unusedSimpArgs false
open Go.RowKit
def plusSplit (s:ByteArray):List ByteArray:=Lib.splitB ⟨#[43]⟩ 0 (Lib.countB s ⟨#[43]⟩) s
theorem plusSplit_len (s:ByteArray):(plusSplit s).length=Lib.countB s ⟨#[43]⟩+1:=Lib.splitB_all ⟨#[43]⟩ (by decide) 0 _ s rfl
def joinP (xs:List ByteArray):ByteArray:=⟨(Lib.join (xs.map (·.data.toList)) [43]).toArray⟩
theorem split_w {W:World}{own:List Asn}(s:ByteArray)(hg:Ent own fun w=>∃ m,w.cell? ⟨Tryz.l146_ren.g 1,0,none⟩=some (.int .i64 m))(hs:s.size<4294967281) :
    Spec Tryz.prog 184 [.string s,.string ⟨#[43]⟩] W own fun v ow=>∃ r0:Value,v=r0∧IsS r0∧ow=strs 9 r0 (plusSplit s)::own:=fun w hst=>by
  obtain⟨m,hm⟩:=hg W w hst
  have h:=Any.strings_Split { Tryz.l146 with } Tryz.l146.i9 s ⟨#[43]⟩ m w hs hm (by decide)
  refine h.mono fun e w' ⟨he,hw⟩=>?_
  have hl:=plusSplit_len s
  have hcs:((plusSplit s).map Value.string).length=(Lib.countB s ⟨#[43]⟩+1)*1:=by rw[List.length_map,hl,Nat.mul_one]
  have hcb:=Lib.countB_le ⟨#[43]⟩ (by decide) s.size s (Nat.le_refl _)
  subst hw
  refine⟨_,_,he,⟨_,rfl,⟨_,_,_,rfl⟩,rfl⟩,?_⟩
  refine row_push hst (.inr ⟨by simp,w.heap.size,Lib.countB s ⟨#[43]⟩+1,((plusSplit s).map Value.string).toArray,by rw[hl],Nat.le_refl _,heap_alloc_new w _,by omega,by simp only[maxLen];omega,by simpa using hl,?_⟩) ((Below.refl _ _).alloc (Nat.le_refl _) _)
  rw[List.take_of_length_le (by simp[hl])]
theorem join_w {W:World}{own:List Asn}{v:Value}{xs:List ByteArray}(_:IsS v)(hv:Ent own fun w=>Strs w v xs)(hl:(joinP xs).size≤140737488355328)(hN:xs.length≤140737488355328) :
    Spec Tryz.prog 153 [v,.string ⟨#[43]⟩] W own fun u ow=>u = .string (joinP xs)∧ow=own:=Spec.below fun w hst=>by
  obtain⟨_,ao,cap,rfl,h1,_,_,h4⟩:=hv W w hst
  cases xs with
  | nil=>exact(Any.strings_Join_none Tryz.l156 Tryz.x156 ao cap ⟨#[43]⟩ w).mono fun e w' ⟨he,hw⟩=>⟨he,hw ▸ Below.refl _ _⟩
  | cons x r =>
    obtain⟨b,o,rfl,hb,hc⟩:=h4 (by simp)
    refine Any.strings_Join Tryz.l156 Tryz.x156 b o cap (x::r) ⟨#[43]⟩ w (fun j y hy=>?_) hb hN h1 (by simpa [joinP,ByteArray.size] using hl)
    have hj:j<(x::r).length:=(List.getElem?_eq_some_iff.1 hy).1
    rw[hc j (by omega)]
    simp only[List.getD,List.getElem?_map,hy]
    rfl
end Go.Proofs.YtbmnnbglipkidaaGreatDoor
namespace Go.Proofs.YtbmnnbglipkidaaGreatDoor
set_option linter.unusedVariables false
set_option linter.unusedSimpArgs false
def dval (l:List UInt8):Nat:=l.foldl (fun a b=>a*10+(b.toNat - 48)) 0
theorem dval_snoc (l:List UInt8)(b:UInt8):dval (l++[b])=dval l*10+(b.toNat - 48):=by simp[dval]
theorem dig_byte {k:Nat}(h:k<10):(UInt8.ofNat (48+k)).toNat=48+k:=by
  rw[UInt8.toNat_ofNat']
  omega
theorem decDigits_val (u:Nat):dval (Lib.decDigits u)=u∧(∀ b∈Lib.decDigits u,48≤b.toNat∧b.toNat≤57):=by
  induction u using Nat.strongRecOn with
  | _ u ih =>
    by_cases h:u<10
    · rw[Lib.decDigits,dif_pos h]
      refine⟨?_,fun b hb=>?_⟩
      · show 0*10+((UInt8.ofNat (48+u)).toNat - 48)=u
        rw[dig_byte h]
        omega
      · simp only[List.mem_singleton] at hb
        subst hb
        rw[dig_byte h]
        omega
    · rw[Lib.decDigits,dif_neg h]
      obtain⟨h1,h2⟩:=ih (u / 10) (by omega)
      refine⟨?_,fun b hb=>?_⟩
      · rw[dval_snoc,h1,dig_byte (Nat.mod_lt _ (by omega))]
        omega
      · rcases List.mem_append.1 hb with hb | hb
        · exact h2 b hb
        · simp only[List.mem_singleton] at hb
          subst hb
          rw[dig_byte (Nat.mod_lt _ (by omega))]
          omega
theorem decDigits_ne (u:Nat):Lib.decDigits u≠[]:=by
  rw[Lib.decDigits]
  split <;> simp
theorem itoa_rng (n:Int):∀ b∈Lib.itoa n,b.toNat≠32∧b.toNat≠44:=by
  intro b hb
  unfold Lib.itoa at hb
  split at hb
  · rcases List.mem_cons.1 hb with rfl | hb
    · decide
    · have:=(decDigits_val _).2 b hb
      omega
  · have:=(decDigits_val _).2 b hb
    omega
theorem itoa_inj {m n:Int}(h:Lib.itoa m=Lib.itoa n):m=n:=by
  have hd:∀ {u v:Nat},Lib.decDigits u=Lib.decDigits v→u=v:=fun {u v} e=>by rw[← (decDigits_val u).1,e,(decDigits_val v).1]
  have hn:∀ {u v:Nat},(45:UInt8)::Lib.decDigits u≠Lib.decDigits v:=fun {u v} e=>by
    have:=(decDigits_val v).2 45 (by rw[← e];simp)
    simp at this
  unfold Lib.itoa at h
  split at h <;> split at h
  · have:=hd (List.cons.inj h).2
    omega
  · exact absurd h hn
  · exact absurd h.symm hn
  · have:=hd h
    omega
theorem cut_eq {c:UInt8}:∀ {a b s t:List UInt8},(∀ x∈a,x≠c)→(∀ x∈b,x≠c)→(s = []∨∃ r,s=c::r)→(t = []∨∃ r,t=c::r)→a++s=b++t→a=b∧s=t
  | [],[],s,t,_,_,_,_,h=>⟨rfl,h⟩
  | [],y::b,s,t,_,hb,hs,_,h=>by
    rcases hs with rfl | ⟨r,rfl⟩
    · simp at h
    · simp only[List.nil_append,List.cons_append,List.cons.injEq] at h
      exact absurd h.1.symm (hb y (by simp))
  | x::a,[],s,t,ha,_,_,ht,h=>by
    rcases ht with rfl | ⟨r,rfl⟩
    · simp at h
    · simp only[List.nil_append,List.cons_append,List.cons.injEq] at h
      exact absurd h.1 (ha x (by simp))
  | x::a,y::b,s,t,ha,hb,hs,ht,h=>by
    simp only[List.cons_append,List.cons.injEq] at h
    obtain⟨e1,e2⟩:=cut_eq (fun z hz=>ha z (by simp[hz])) (fun z hz=>hb z (by simp[hz])) hs ht h.2
    exact⟨by rw[h.1,e1],e2⟩
def fmtL (xs:List Int):List UInt8:=Lib.join (xs.map Lib.itoa) [32]
def fmtB (xs:List Int):ByteArray:=⟨(fmtL xs).toArray⟩
def itoaB (n:Int):ByteArray:=⟨(Lib.itoa n).toArray⟩
theorem tail_form (r:List (List UInt8)):Lib.joinTail [32] r = []∨∃ q,Lib.joinTail [32] r=32::q:=by
  cases r with
  | nil=>exact .inl rfl
  | cons x r=>exact .inr ⟨x++Lib.joinTail [32] r,by simp[Lib.joinTail]⟩
theorem tail_inj:∀ {xs ys:List Int},Lib.joinTail [32] (xs.map Lib.itoa)=Lib.joinTail [32] (ys.map Lib.itoa)→xs=ys
  | [],[],_=>rfl
  | [],y::ys,h=>by simp[Lib.joinTail] at h
  | x::xs,[],h=>by simp[Lib.joinTail] at h
  | x::xs,y::ys,h=>by
    have h':Lib.itoa x++Lib.joinTail [32] (xs.map Lib.itoa)=Lib.itoa y++Lib.joinTail [32] (ys.map Lib.itoa):=by simpa [Lib.joinTail] using h
    obtain⟨e1,e2⟩:=cut_eq (c:=32) (fun z hz e=>(itoa_rng x z hz).1 (by rw[e];rfl)) (fun z hz e=>(itoa_rng y z hz).1 (by rw[e];rfl)) (tail_form _) (tail_form _) h'
    rw[itoa_inj e1,tail_inj e2]
theorem itoa_ne (n:Int):Lib.itoa n≠[]:=by
  unfold Lib.itoa
  split
  · simp
  · exact decDigits_ne _
theorem fmtL_inj {xs ys:List Int}(h:fmtL xs=fmtL ys):xs=ys:=by
  unfold fmtL at h
  cases xs with
  | nil =>
    cases ys with
    | nil=>rfl
    | cons y ys =>
      rw[List.map_cons,Lib.join_cons] at h
      have:Lib.itoa y++Lib.joinTail [32] (ys.map Lib.itoa) = []:=h.symm
      exact absurd (List.append_eq_nil_iff.1 this).1 (itoa_ne y)
  | cons x xs =>
    cases ys with
    | nil =>
      rw[List.map_cons,Lib.join_cons] at h
      have:Lib.itoa x++Lib.joinTail [32] (xs.map Lib.itoa) = []:=h
      exact absurd (List.append_eq_nil_iff.1 this).1 (itoa_ne x)
    | cons y ys =>
      rw[List.map_cons,Lib.join_cons,List.map_cons,Lib.join_cons] at h
      have h':Lib.itoa x++Lib.joinTail [32] (xs.map Lib.itoa)=Lib.itoa y++Lib.joinTail [32] (ys.map Lib.itoa):=h
      obtain⟨e1,e2⟩:=cut_eq (c:=32) (fun z hz e=>(itoa_rng x z hz).1 (by rw[e];rfl)) (fun z hz e=>(itoa_rng y z hz).1 (by rw[e];rfl)) (tail_form _) (tail_form _) h'
      rw[itoa_inj e1,tail_inj e2]
theorem fmtB_inj {xs ys:List Int}(h:fmtB xs=fmtB ys):xs=ys:=by
  refine fmtL_inj ?_
  have:=congrArg (fun b:ByteArray=>b.data.toList) h
  simpa [fmtB] using this
theorem fmtB_eq (xs ys:List Int):fmtB xs=fmtB ys↔xs=ys:=⟨fmtB_inj,fun h=>by rw[h]⟩
theorem fmtB_join (xs:List Int):(⟨(Lib.join ((xs.map itoaB).map (·.data.toList)) [32]).toArray⟩:ByteArray)=fmtB xs:=by
  unfold fmtB fmtL
  rw[List.map_map]
  rfl
theorem tail_len:∀ (xs:List Int),(∀ x∈xs, -9223372036854775808≤x∧x≤9223372036854775807)→(Lib.joinTail [32] (xs.map Lib.itoa)).length≤22*xs.length
  | [],_=>by simp[Lib.joinTail]
  | x::xs,h=>by
    have e:Lib.joinTail [32] ((x::xs).map Lib.itoa) = [32]++(Lib.itoa x++Lib.joinTail [32] (xs.map Lib.itoa)):=by simp[Lib.joinTail]
    have h1:=Lib.itoa_length_le x (h x (by simp)).1 (h x (by simp)).2
    have h2:=tail_len xs fun y hy=>h y (by simp[hy])
    rw[e,List.length_append,List.length_append,List.length_cons,List.length_nil,List.length_cons]
    omega
theorem fmtB_size {xs:List Int}(h:∀ x∈xs, -9223372036854775808≤x∧x≤9223372036854775807):(fmtB xs).size≤22*xs.length:=by
  show (fmtL xs).toArray.size≤_
  rw[List.size_toArray]
  cases xs with
  | nil=>simp[fmtL,Lib.join]
  | cons x xs =>
    have h1:=Lib.itoa_length_le x (h x (by simp)).1 (h x (by simp)).2
    have h2:=tail_len xs fun y hy=>h y (by simp[hy])
    have e:fmtL (x::xs)=Lib.itoa x++Lib.joinTail [32] (xs.map Lib.itoa):=by rw[fmtL,List.map_cons,Lib.join_cons]
    rw[e,List.length_append,List.length_cons]
    omega
end Go.Proofs.YtbmnnbglipkidaaGreatDoor
