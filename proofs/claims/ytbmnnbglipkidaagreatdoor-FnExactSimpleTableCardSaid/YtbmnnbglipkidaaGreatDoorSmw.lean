/-
  Tables of simple algebras: each step of the second text, in the words of the walks. No program is spoken of.
-/
import Derived.Test.YtbmnnbglipkidaaGreatDoorZ19
namespace Go.Proofs.YtbmnnbglipkidaaGreatDoor
set_option linter.unusedVariables false
set_option linter.unusedSimpArgs false
theorem all_view {n:Int}{d:List Int}{own:List Asn}{us ws:List Value}{e i k:Nat}(hm:∀ k,k<(rSt n d).length→Ent own fun w=>Ints w (us.getD k undef) ((rSt n d).getD k []))(ho:own[i]?=some (many (ints e) ws ((rSt n d).map mnF)))
    (hu:us.length=(rSt n d).length) (hw:ws.length=(rSt n d).length) (hk:k<2*smM n d):Ent own fun w=>Ints w ((us++ws).getD k undef) ((allR n d).getD k []):=by
  unfold smM at hk
  by_cases h:k<(rSt n d).length
  · have e1:(us++ws).getD k undef=us.getD k undef:=by simp[List.getD,List.getElem?_append_left (show k<us.length by omega)]
    have e2:(allR n d).getD k []=(rSt n d).getD k []:=by simp[allR,List.getD,List.getElem?_append_left h]
    rw[e1,e2]
    exact hm k h
  · have e1:(us++ws).getD k undef=ws.getD (k - (rSt n d).length) undef:=by simp[List.getD,List.getElem?_append_right (show us.length≤k by omega),hu]
    have e2:(allR n d).getD k []=((rSt n d).map mnF).getD (k - (rSt n d).length) []:=by simp[allR,List.getD,List.getElem?_append_right (show (rSt n d).length≤k by omega)]
    rw[e1,e2]
    exact Ent.manyInts ho ⟨by omega,by rw[List.length_map];omega⟩
theorem take_mn {L:List (List Int)}{k:Nat}(hk:k<L.length):(L.take k).map mnF++[mnF (L.getD k [])]=(L.take (k+1)).map mnF:=by rw[takeD_snoc (d:=[]) hk,List.map_append];rfl
theorem smAd_len (n:Int)(d:List Int)(p:Int):(smAd n d p).length≤21952:=by
  unfold smAd
  cases e:smOk n d p with
  | false=>simp
  | true =>
    simp only[smOk,Bool.and_eq_true,decide_eq_true_eq] at e
    have:=(cube_eq e.2.2).2
    rw[if_pos rfl,(stT_tab (n:=n) (d:=d) p).len]
    exact this
section
variable {n:Int}{d:List Int}{p:Int}{u v t:Nat}{ys:List Int}
theorem all_rt (hS:(tyS n d).isSome=true)(hu:u<2*smM n d):rtB (rSt n d) ((allR n d).getD u [])=true:=by
  rw[allR_get hu]
  exact smR_rt hS (spI_lt hu) spI_H
theorem stE_pair (hu:u<2*smM n d)(hv:v<2*smM n d)(c:Nat):stE n d (spI n d u) (spI n d v) c=if (allR n d).getD u []=mnF ((allR n d).getD v []) then(if smM n d≤c∧c<smM n d+n.toNat then(crF n d ((allR n d).getD u [])).getD (c - smM n d) 0 else 0)
    else if rtB (rSt n d) (lA ((allR n d).getD u []) 1 ((allR n d).getD v []))=true then(if (c:Int)=l7I n (rSt n d) (lA ((allR n d).getD u []) 1 ((allR n d).getD v [])) then nF n d ((allR n d).getD u []) ((allR n d).getD v []) else 0) else 0:=by
  rw[allR_get hu,allR_get hv,stE,spI_H,spI_H]
  rfl
theorem SpI.co0 (hS:(tyS n d).isSome=true)(h:SpI n d p u n.toNat v 0 ys)(hu:u<2*smM n d)(hv:v<u)(he:samB ((allR n d).getD u []) (mnF ((allR n d).getD v []))=true):SpI n d p u n.toNat v (smM n d+0) ys:=TabI.alter h fun a b c ha hb hc=>by
  rw[samB_eq] at he
  have he2:=(of_decide_eq_true he).symm
  have hi:=spI_lt (n:=n) (d:=d) hu
  have hj:=spI_lt (n:=n) (d:=d) (u:=v) (by omega)
  have anti:=fun c=>stE_anti hS hi hj c
  have h0:∀ c,c<smM n d→stE n d (spI n d u) (spI n d v) c=0:=fun c hc=>by rw[stE_pair hu (by omega),if_pos he2,if_neg (by omega)]
  simp only[spD]
  cases h1:smH n d a with
  | true=>exact .inl (by simp)
  | false =>
    cases h2:smH n d b with
    | true=>exact .inl (by simp)
    | false =>
      have ha2:=spI_P h1
      have hb2:=spI_P h2
      by_cases hab:((spP n d a=u∧spP n d b=v)∨(spP n d a=v∧spP n d b=u))∧c<smM n d
      · refine .inr ?_
        obtain⟨⟨q1,q2⟩ | ⟨q1,q2⟩,hc2⟩:=hab
        · rw[← ha2,← hb2,q1,q2,h0 c hc2,Int.zero_emod]
        · rw[← ha2,← hb2,q1,q2,anti,h0 c hc2]
          rfl
      · refine .inl ?_
        rw[Bool.eq_iff_iff]
        simp only[Bool.false_eq_true,if_false,decide_eq_true_eq]
        omega
theorem SpI.co (hS:(tyS n d).isSome=true)(h:SpI n d p u n.toNat v (smM n d+t) ys)(hu:u<2*smM n d)(hv:v<u)(ht:t<n.toNat)(he:samB ((allR n d).getD u []) (mnF ((allR n d).getD v []))=true){iu jv c0:Nat}(hiu:iu=spI n d u)(hjv:jv=spI n d v)(hc0:c0=smM n d+t){w:Int}(hw:w=(crF n d ((allR n d).getD v [])).getD t 0) :
    SpI n d p u n.toNat v (smM n d+(t+1)) ((ys.set ((jv*smN n d+iu)*smN n d+c0) (w%p)).set ((iu*smN n d+jv)*smN n d+c0) ((0 - w)%p)):=by
  subst hiu hjv hc0
  rw[samB_eq] at he
  have he2:=(of_decide_eq_true he).symm
  have hy:=all_rt hS (show v<2*smM n d by omega)
  have hc:smM n d+t<smN n d:=by unfold smN;omega
  have e1:stE n d (spI n d u) (spI n d v) (smM n d+t) = -w:=by
    rw[stE_pair hu (by omega),if_pos he2,if_pos (by omega),show smM n d+t - smM n d=t by omega,he2,cr_minus2 hS hy ht,hw]
  have e2:=stE_anti hS (spI_lt (n:=n) (d:=d) hu) (spI_lt (n:=n) (d:=d) (u:=v) (by omega)) (smM n d+t)
  refine(spPair hS hu hv (t':=smM n d+(t+1)) (c0:=smM n d+t) hc h (w1:=(0 - w)%p) (w2:=w%p) (by rw[e1,Int.zero_sub]) (by rw[e2,e1,Int.neg_neg]) fun c _ => .inl ⟨fun q=>by omega,fun q=>by omega⟩).2
theorem SpI.coE (hS:(tyS n d).isSome=true)(h:SpI n d p u n.toNat v (smM n d+n.toNat) ys)(hu:u<2*smM n d)(hv:v<u)(he:samB ((allR n d).getD u []) (mnF ((allR n d).getD v []))=true):SpI n d p u n.toNat (v+1) 0 ys:=by
  rw[samB_eq] at he
  refine h.skip hS hu hv fun c _ hc=>?_
  rw[stE_pair hu (by omega),if_pos (of_decide_eq_true he).symm,if_neg (by omega)]
theorem SpI.N (hS:(tyS n d).isSome=true)(h:SpI n d p u n.toNat v 0 ys)(hu:u<2*smM n d)(hv:v<u)(he:samB ((allR n d).getD u []) (mnF ((allR n d).getD v []))=false){iu jv z:Nat}(hiu:iu=spI n d u)(hjv:jv=spI n d v)
    (hz:l7I n (rSt n d) (lpF ((allR n d).getD u []) 1 ((allR n d).getD v []))=(z:Int)) {w:Int} (hw:w=nF n d ((allR n d).getD u []) ((allR n d).getD v [])) :
    SpI n d p u n.toNat (v+1) 0 ((ys.set ((iu*smN n d+jv)*smN n d+z) (w%p)).set ((jv*smN n d+iu)*smN n d+z) ((0 - w)%p))∧z<smN n d:=by
  subst hiu hjv
  rw[samB_eq] at he
  have he2 : ¬ (allR n d).getD u []=mnF ((allR n d).getD v []):=fun q=>of_decide_eq_false he q.symm
  have hx:=all_rt hS hu
  have hy:=all_rt hS (show v<2*smM n d by omega)
  rw[lp1 hS hx hy] at hz
  have hr:rtB (rSt n d) (lA ((allR n d).getD u []) 1 ((allR n d).getD v []))=true:=by
    cases e:rtB (rSt n d) (lA ((allR n d).getD u []) 1 ((allR n d).getD v [])) with
    | true=>rfl
    | false =>
      rw[rtB,Bool.or_eq_false_iff] at e
      have h1:=plF_n e.1
      have h2:=plF_n e.2
      rw[l7I,if_neg (by omega),if_pos h2] at hz
      omega
  have hzl:=l7I_lt hS hr
  have e1:∀ c,stE n d (spI n d u) (spI n d v) c=if c=z then w else 0:=fun c=>by
    rw[stE_pair hu (by omega),if_neg he2,if_pos hr,hz,hw]
    by_cases q:c=z
    · rw[if_pos (by omega),if_pos q]
    · rw[if_neg (by omega),if_neg q]
  have e2:=stE_anti hS (spI_lt (n:=n) (d:=d) hu) (spI_lt (n:=n) (d:=d) (u:=v) (by omega)) z
  have hzN:z<smN n d:=by omega
  refine⟨SpI.skip hS (spPair hS hu hv (t':=smN n d) (c0:=z) hzN h (w1:=w%p) (w2:=(0 - w)%p) (by rw[e1,if_pos rfl]) (by rw[e2,e1,if_pos rfl,Int.zero_sub]) fun c hc=>?_).1 hu hv fun c hc q=>by omega,hzN⟩
  by_cases q:c=z
  · exact .inl ⟨fun _ => .inr q,fun _=>hc⟩
  · exact .inr (by rw[e1,if_neg q])
theorem SpI.no (hS:(tyS n d).isSome=true)(h:SpI n d p u n.toNat v 0 ys)(hu:u<2*smM n d)(hv:v<u)(he:samB ((allR n d).getD u []) (mnF ((allR n d).getD v []))=false)(hz:l7I n (rSt n d) (lpF ((allR n d).getD u []) 1 ((allR n d).getD v []))<0):SpI n d p u n.toNat (v+1) 0 ys:=by
  rw[samB_eq] at he
  have he2 : ¬ (allR n d).getD u []=mnF ((allR n d).getD v []):=fun q=>of_decide_eq_false he q.symm
  have hx:=all_rt hS hu
  have hy:=all_rt hS (show v<2*smM n d by omega)
  rw[lp1 hS hx hy] at hz
  refine h.skip hS hu hv fun c _ _=>?_
  rw[stE_pair hu (by omega),if_neg he2,if_neg fun hr=>by have:=l7I_lt hS hr;omega]
theorem SpI.wtq (hS:(tyS n d).isSome=true){kk:Nat}(h:SpI n d p u kk 0 0 ys)(hu:u<2*smM n d)(hk:kk<n.toNat){w:Int}(hw:w=(wtF n d ((allR n d).getD u [])).getD kk 0){iu hq:Nat}(hiu:iu=spI n d u)(hhq:hq=smM n d+kk) :
    SpI n d p u (kk+1) 0 0 ((ys.set ((hq*smN n d+iu)*smN n d+iu) (w%p)).set ((iu*smN n d+hq)*smN n d+iu) ((0 - w)%p)):=by
  subst hiu hhq
  exact h.wt hS hu hk hw
end
end Go.Proofs.YtbmnnbglipkidaaGreatDoor
