/-
  Climbing to a dominant weight: that it ends, and what it gives; the first number below zero; lists turned, lists with other signs. No program is spoken of.
-/
import Derived.Test.YtbmnnbglipkidaaGreatDoorCarV
namespace Go.Proofs.YtbmnnbglipkidaaGreatDoor
set_option linter.unusedVariables false
set_option linter.unusedSimpArgs false
def Bd (n:Int)(d w:List Int):Prop:=w.length=n.toNat∧∀ c∈phi n d, -20≤dotL n.toNat c w∧dotL n.toNat c w≤20
theorem dot_unit {m i:Nat}{w:List Int}(hi:i<m):dotL m (unitL m i) w=w.getD i 0:=by
  have h:=dotN_unit (w.getD · 0) i m
  rw[if_pos hi] at h
  rw[← h]
  exact dotN_congr fun k hk=>⟨by simp[unitL,List.getD,hk],rfl⟩
theorem Bd.ent {n:Int}{d w:List Int}(hp:PhOk n d)(h:Bd n d w){k:Nat}(hk:k<w.length) : -20≤w.getD k 0∧w.getD k 0≤20:=by
  have hk':k<n.toNat:=by rw[← h.1];exact hk
  have:=h.2 _ (hp.unit k hk')
  rwa [dot_unit hk'] at this
theorem dot_refl {n:Int}{d c w w':List Int}{i:Int}(hc:c.length=n.toNat)(hi:i.toNat<n.toNat)(hi0:0≤i)(hg:∀ k,k<n.toNat→w'.getD k 0=w.getD k 0 - w.getD i.toNat 0*atI n d k i):dotL n.toNat c w'=dotL n.toNat (phStep n d c i.toNat) w:=by
  have e1:dotL n.toNat c w'=dotN (c.getD · 0) (fun k=>w.getD k 0 - w.getD i.toNat 0*atI n d k i) n.toNat:=dotN_congr fun k hk=>⟨rfl,hg k hk⟩
  have e2:dotL n.toNat (phStep n d c i.toNat) w=dotN (fun k=>if k=i.toNat then c.getD k 0 - dotN (c.getD · 0) (fun k=>atI n d k i) n.toNat else c.getD k 0) (w.getD · 0) n.toNat:=dotN_congr fun k hk=>⟨by
    have ei:((i.toNat:Nat):Int)=i:=by omega
    unfold phStep
    rw[ei]
    by_cases h:k=i.toNat
    · subst h
      rw[if_pos rfl]
      simp[List.getD,hc,hk]
    · rw[if_neg h,set_getD_ne (by omega)],rfl⟩
  rw[e1,e2,dotN_sub,dotN_upd,if_pos hi,Int.mul_comm]
theorem Bd.refl {n:Int}{d w:List Int}(hp:PhOk n d)(h:Bd n d w){i:Int}(hi:0≤i∧i.toNat<w.length):Bd n d (rfF n d i w):=by
  refine⟨by rw[rfF_len];exact h.1,fun c hc=>?_⟩
  have hi':i.toNat<n.toNat:=by rw[← h.1];exact hi.2
  have hex:∀ k,k<n.toNat→(rfF n d i w).getD k 0=w.getD k 0 - w.getD i.toNat 0*atI n d k i:=fun k hk=>rfF_exact hp.ent hi.2 (fun k hk=>by have:=h.ent hp hk;omega) (by rw[h.1];exact hk)
  rcases hp.closed c hc _ hi' with hu | hu
  · subst hu
    have hdg:=hp.diag i.toNat hi'
    rw[show ((i.toNat:Nat):Int)=i by omega] at hdg
    have he:=h.ent hp hi.2
    have hx:=hex _ hi'
    rw[show ((i.toNat:Nat):Int)=i by omega,hdg] at hx
    rw[dot_unit hi',hx]
    omega
  · rw[dot_refl (w:=w) (hp.len c hc) hi' hi.1 hex]
    exact h.2 _ hu
theorem dotN_neg (c w:Nat→Int):∀ m:Nat,dotN c (fun k => -(w k)) m = -(dotN c w m)
  | 0=>rfl
  | m+1=>by
    rw[dotN,dotN,dotN_neg c w m,Int.mul_neg]
    omega
theorem wtOk_ent {n:Int}{w:List Int}(h:wtOk n w=true):∀ k,k<w.length → -1000≤w.getD k 0∧w.getD k 0≤1000:=by
  intro k hk
  simp only[wtOk,Bool.and_eq_true,Bool.not_eq_true'] at h
  have h1:=List.any_eq_false.1 h.2 (w.getD k 0) (by
    have e:w.getD k 0=w[k]:=by simp[List.getD,hk]
    rw[e]
    exact List.getElem_mem hk)
  have h2:inB (w.getD k 0) (-1000) 1000=true:=by simpa using h1
  exact inB_true h2
def lpF (x:List Int)(k:Int)(y:List Int):List Int:=(List.range y.length).foldl (fun(o:List Int) (i:Nat)=>o.set i (IntKind.i64.wrap (o.getD i 0+IntKind.i64.wrap (k*y.getD i 0)))) x
def mnF (y:List Int):List Int:=y.map fun x=>0 - x
theorem lp_minus {y:List Int}(h:∀ k,k<y.length → -1000≤y.getD k 0∧y.getD k 0≤1000):lpF (List.replicate y.length 0) (-1) y=mnF y:=by
  have hl:(lpF (List.replicate y.length 0) (-1) y).length=y.length:=by
    unfold lpF
    rw[len_fold (fun o i=>by simp),List.length_replicate]
  refine ext_getD (by rw[hl,mnF,List.length_map]) fun k hk=>?_
  rw[hl] at hk
  have hg:=fset_get (g:=fun i (x:Int)=>IntKind.i64.wrap (x+IntKind.i64.wrap (-1*y.getD i 0))) (o:=List.replicate y.length 0) (m:=y.length) (k:=k) (by simp) (by simpa using hk)
  rw[if_pos hk] at hg
  have h0:(List.replicate y.length (0:Int)).getD k 0=0:=by simp[List.getD,hk]
  have hb:=h k hk
  rw[h0,wrap_in (x := -1*y.getD k 0) (by omega) (by omega),wrap_in (by omega) (by omega)] at hg
  refine hg.trans ?_
  simp[mnF,List.getD,hk]
theorem mnF_len (x:List Int):(mnF x).length=x.length:=by simp[mnF]
theorem lpF_len (x:List Int)(k:Int)(y:List Int):(lpF x k y).length=x.length:=len_fold (fun o i=>by simp) _ _
def cmpI (a b:Int):Int:=if a<b then -1 else if b<a then 1 else 0
def cmpL:List Int→List Int→Int
  | [],ys=>if 0<ys.length then -1 else 0
  | _::_,[]=>1
  | x::xs,y::ys=>if cmpI x y≠0 then cmpI x y else cmpL xs ys
def abvL:List Int→List Int→Bool
  | [],_=>false
  | _::_,[]=>true
  | x::xs,y::ys=>if x≠y then decide (y<x) else abvL xs ys
theorem abv_ne {x y:List Int}{k:Nat}(h1:k<x.length)(h2:k<y.length)(h:x.getD k 0≠y.getD k 0):abvL (x.drop k) (y.drop k)=decide (y.getD k 0<x.getD k 0):=by
  rw[drop_getD h1,drop_getD h2,abvL,if_pos h]
theorem abv_eq {x y:List Int}{k:Nat}(h1:k<x.length)(h2:k<y.length)(h:x.getD k 0=y.getD k 0):abvL (x.drop k) (y.drop k)=abvL (x.drop (k+1)) (y.drop (k+1)):=by
  rw[drop_getD h1,drop_getD h2,abvL,if_neg (by simpa using h)]
theorem abv_end {x y:List Int}{k:Nat}(h:x.length≤k∨y.length≤k)(h1:k≤x.length)(h2:k≤y.length):abvL (x.drop k) (y.drop k)=decide ((y.length:Int)<x.length):=by
  by_cases hx:x.length≤k
  · rw[List.drop_eq_nil_of_le hx,abvL,decide_eq_false (by omega)]
  · rw[drop_getD (by omega:k<x.length),List.drop_eq_nil_of_le (by omega:y.length≤k),abvL,decide_eq_true (by omega)]
theorem cmp_ne {x y:List Int}{k:Nat}(h1:k<x.length)(h2:k<y.length)(h:cmpI (x.getD k 0) (y.getD k 0)≠0):cmpL (x.drop k) (y.drop k)=cmpI (x.getD k 0) (y.getD k 0):=by
  rw[drop_getD h1,drop_getD h2,cmpL,if_pos h]
theorem cmp_eq {x y:List Int}{k:Nat}(h1:k<x.length)(h2:k<y.length)(h:cmpI (x.getD k 0) (y.getD k 0)=0):cmpL (x.drop k) (y.drop k)=cmpL (x.drop (k+1)) (y.drop (k+1)):=by
  rw[drop_getD h1,drop_getD h2,cmpL,if_neg (by simpa using h)]
theorem cmp_long {x y:List Int}{k:Nat}(h1:k<x.length)(h2:y.length≤k):cmpL (x.drop k) (y.drop k)=1:=by
  rw[drop_getD h1,List.drop_eq_nil_of_le h2,cmpL]
theorem cmp_end {x y:List Int}{k:Nat}(h1:x.length≤k)(h2:k≤x.length)(h3:k≤y.length∨True):cmpL (x.drop k) (y.drop k)=if (x.length:Int)<y.length then -1 else 0:=by
  rw[List.drop_eq_nil_of_le h1,cmpL,List.length_drop]
  by_cases h:(x.length:Int)<y.length
  · rw[if_pos (by omega),if_pos h]
  · rw[if_neg (by omega),if_neg h]
end Go.Proofs.YtbmnnbglipkidaaGreatDoor
