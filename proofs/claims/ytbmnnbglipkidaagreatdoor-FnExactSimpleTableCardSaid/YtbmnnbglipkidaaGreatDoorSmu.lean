/-
  Tables of simple algebras: each row of the first text, and the progress of the second. No program is spoken of.
-/
import Derived.Test.YtbmnnbglipkidaaGreatDoorZ18
namespace Go.Proofs.YtbmnnbglipkidaaGreatDoor
set_option linter.unusedVariables false
set_option linter.unusedSimpArgs false
section
variable {n:Int}{d:List Int}{p:Int}{i j:Nat}
theorem rw_HH (h1:smH n d i=true)(h2:smH n d j=true):List.replicate (smN n d) 0=rwF n d p i j:=rw_zero fun k _=>by simp[stE,h1,h2]
theorem rw_Hx (hj:j<smN n d)(h1:smH n d i=true)(h2:smH n d j=false):(List.replicate (smN n d) 0).set j ((wtF n d (smR n d j)).getD (i - smM n d) 0%p)=rwF n d p i j:=rw_one hj fun k _=>by simp[stE,h1,h2]
theorem rw_xH (hi:i<smN n d)(h1:smH n d i=false)(h2:smH n d j=true):(List.replicate (smN n d) 0).set i ((0 - (wtF n d (smR n d i)).getD (j - smM n d) 0)%p)=rwF n d p i j:=by
  rw[Int.zero_sub]
  exact rw_one hi fun k _=>by simp[stE,h1,h2]
theorem l7I_lt (hS:(tyS n d).isSome=true){z:List Int}(hz:rtB (rSt n d) z=true):0≤l7I n (rSt n d) z∧l7I n (rSt n d) z<smN n d:=by
  have hcr:=(tyS_ok hS).1
  unfold l7I smN smM
  split
  · rename_i h0
    have hc:(rSt n d).contains z=true:=by rw[← plF_ge];exact decide_eq_true h0
    have:=(pl_root (contains_mem.1 hc)).1
    omega
  · rename_i h0
    have hm:mnF z∈rSt n d:=by
      rcases rt_or hz with h | h
      · exact absurd (plF_c (contains_mem.2 h)) h0
      · exact h
    obtain⟨h1,_,h3⟩:=pl_root hm
    rw[if_neg (by omega)]
    omega
theorem rw_N (hS:(tyS n d).isSome=true)(hi:i<smN n d)(hj:j<smN n d)(h1:smH n d i=false)(h2:smH n d j=false)(h3:smR n d i≠mnF (smR n d j))(h4:rtB (rSt n d) (lA (smR n d i) 1 (smR n d j))=true) :
    (List.replicate (smN n d) 0).set (l7I n (rSt n d) (lA (smR n d i) 1 (smR n d j))).toNat (nF n d (smR n d i) (smR n d j)%p)=rwF n d p i j:=by
  have hl:=l7I_lt hS h4
  refine rw_one (by omega) fun k _=>?_
  simp only[stE,h1,h2,h4,if_neg h3,Bool.false_eq_true,if_false,if_true]
  by_cases e:(k:Int)=l7I n (rSt n d) (lA (smR n d i) 1 (smR n d j))
  · rw[if_pos e,if_pos (by omega)]
  · rw[if_neg e,if_neg (by omega)]
theorem rw_no (h1:smH n d i=false)(h2:smH n d j=false)(h3:smR n d i≠mnF (smR n d j))(h4:rtB (rSt n d) (lA (smR n d i) 1 (smR n d j))=false):List.replicate (smN n d) 0=rwF n d p i j:=rw_zero fun k _=>by
  simp[stE,h1,h2,h4,if_neg h3]
def coR (n:Int)(d:List Int)(p:Int)(i:Nat)(t:Nat):List Int:=(List.range t).foldl (fun(o:List Int) (k:Nat)=>o.set (smM n d+k) ((crF n d (smR n d i)).getD k 0%p)) (List.replicate (smN n d) 0)
theorem coR_len (t:Nat):(coR n d p i t).length=smN n d:=by rw[coR,len_fold (fun o i=>by simp),List.length_replicate]
theorem coR_get:∀ {t:Nat},t≤n.toNat→∀ c,c<smN n d→(coR n d p i t).getD c 0=if smM n d≤c∧c<smM n d+t then(crF n d (smR n d i)).getD (c - smM n d) 0%p else 0
  | 0,_,c,hc=>by
    rw[if_neg (by omega)]
    simp[coR,List.getD,hc]
  | t+1,ht,c,hc=>by
    have e:coR n d p i (t+1)=(coR n d p i t).set (smM n d+t) ((crF n d (smR n d i)).getD t 0%p):=by rw[coR,foldl_succ];rfl
    rw[e]
    by_cases h:smM n d+t=c
    · subst h
      rw[set_getD_eq (by rw[coR_len];exact hc),if_pos (by omega),show smM n d+t - smM n d=t by omega]
    · rw[set_getD_ne h,coR_get (by omega) c hc]
      by_cases h2:smM n d≤c∧c<smM n d+t
      · rw[if_pos h2,if_pos (by omega)]
      · rw[if_neg h2,if_neg (by omega)]
theorem rw_co (h1:smH n d i=false)(h2:smH n d j=false)(h3:smR n d i=mnF (smR n d j)):coR n d p i n.toNat=rwF n d p i j:=ext_getD (by rw[rwF_len,coR_len]) fun k hk=>by
  rw[coR_len] at hk
  rw[rwF_get hk,coR_get (Nat.le_refl _) k hk]
  simp only[stE,h1,h2,if_pos h3,Bool.false_eq_true,if_false]
  by_cases h:smM n d≤k∧k<smM n d+n.toNat
  · rw[if_pos h,if_pos h]
  · rw[if_neg h,if_neg h,Int.zero_emod]
def spI (n:Int)(d:List Int)(u:Nat):Nat:=if u<smM n d then u else u+n.toNat
def spP (n:Int)(d:List Int)(i:Nat):Nat:=if i<smM n d then i else i - n.toNat
def allR (n:Int)(d:List Int):List (List Int):=rSt n d++(rSt n d).map mnF
theorem allR_get {u:Nat}(hu:u<2*smM n d):(allR n d).getD u []=smR n d (spI n d u):=by
  unfold smR spI allR smM at *
  by_cases h:u<(rSt n d).length
  · rw[if_pos h,if_pos h]
    simp[List.getD,List.getElem?_append_left h]
  · rw[if_neg h,if_neg (by omega),show u+n.toNat - (rSt n d).length - n.toNat=u - (rSt n d).length by omega]
    have h2:u - (rSt n d).length<(rSt n d).length:=by omega
    simp[List.getD,List.getElem?_append_right (Nat.le_of_not_lt h),h2]
theorem spI_H {u:Nat}:smH n d (spI n d u)=false:=by
  unfold smH spI
  by_cases h:u<smM n d
  · rw[if_pos h,decide_eq_false (by omega)]
    rfl
  · rw[if_neg h,decide_eq_false (p:=u+n.toNat<smM n d+n.toNat) (by omega),Bool.and_false]
theorem spI_lt {u:Nat}(hu:u<2*smM n d):spI n d u<smN n d:=by
  unfold spI smN
  split <;> omega
theorem spP_I {u:Nat}:spP n d (spI n d u)=u:=by
  unfold spP spI
  by_cases h:u<smM n d
  · rw[if_pos h,if_pos h]
  · rw[if_neg h,if_neg (by omega)]
    omega
theorem spI_P {i:Nat}(hh:smH n d i=false):spI n d (spP n d i)=i:=by
  unfold smH at hh
  unfold spP spI
  by_cases h:i<smM n d
  · rw[if_pos h,if_pos h]
  · rw[decide_eq_true (by omega),Bool.true_and] at hh
    have:=of_decide_eq_false hh
    rw[if_neg h,if_neg (by omega)]
    omega
theorem spP_lt {i:Nat}(hi:i<smN n d)(hh:smH n d i=false):spP n d i<2*smM n d:=by
  unfold smH at hh
  unfold smN at hi
  unfold spP
  by_cases h:i<smM n d
  · rw[if_pos h];omega
  · rw[decide_eq_true (by omega),Bool.true_and] at hh
    have:=of_decide_eq_false hh
    rw[if_neg h];omega
theorem l7I_all (hS:(tyS n d).isSome=true){u:Nat}(hu:u<2*smM n d):l7I n (rSt n d) ((allR n d).getD u [])=(spI n d u:Nat):=by
  have hcr:=(tyS_ok hS).1
  have hnd:=(rtOk hS).snod
  have hI:spI n d u=if u<smM n d then u else u+n.toNat:=rfl
  rw[allR_get hu]
  by_cases h:u<smM n d
  · have e:smR n d (spI n d u)=(rSt n d).getD u []:=by rw[hI,if_pos h,smR,if_pos h]
    rw[e,l7I,plF_nodup hnd h,if_pos (by omega),hI,if_pos h]
  · have h2:u - smM n d<(rSt n d).length:=by unfold smM at *;omega
    have hm:=getR_mem h2
    have h3:(rSt n d).contains (mnF ((rSt n d).getD (u - smM n d) []))=false:=by
      cases e:(rSt n d).contains (mnF ((rSt n d).getD (u - smM n d) [])) with
      | false=>rfl
      | true=>exact absurd (contains_mem.1 e) (mn_not hS hm)
    have h4:=plF_n h3
    have e:smR n d (spI n d u)=mnF ((rSt n d).getD (u - smM n d) []):=by rw[hI,if_neg h,smR,if_neg (by omega),show u+n.toNat - smM n d - n.toNat=u - smM n d by omega]
    rw[e,l7I,if_neg (by omega),mnF_mnF,plF_nodup hnd h2,if_neg (by omega),hI,if_neg h]
    unfold smM at *
    omega
def spD (n:Int)(d:List Int)(u kk v t a b c:Nat):Bool :=
  if smH n d a then(if smH n d b then true else decide (spP n d b<u∨(spP n d b=u∧a - smM n d<kk)))
  else if smH n d b then decide (spP n d a<u∨(spP n d a=u∧b - smM n d<kk))
  else decide (max (spP n d a) (spP n d b)<u∨(max (spP n d a) (spP n d b)=u∧(min (spP n d a) (spP n d b)<v∨(min (spP n d a) (spP n d b)=v∧c<t))))
def SpI (n:Int)(d:List Int)(p:Int)(u kk v t:Nat)(ys:List Int):Prop:=TabI (smN n d) (fun a b c=>stE n d a b c%p) (spD n d u kk v t) ys
variable {u kk v t:Nat}{ys:List Int}
theorem SpI.new:SpI n d p 0 0 0 0 (List.replicate (smN n d*smN n d*smN n d) 0):=(TabI.new (F:=fun a b c=>stE n d a b c%p)).alter fun a b c _ _ _=>by
  unfold spD
  cases h1:smH n d a with
  | true =>
    cases h2:smH n d b with
    | true=>exact .inr (by simp[stE,h1,h2])
    | false=>exact .inl (by simp)
  | false =>
    cases h2:smH n d b with
    | true=>exact .inl (by simp)
    | false=>exact .inl (by simp)
theorem mod_neg {e q x:Int}(hq:q = -e):(0 - e)%x=q%x:=by rw[hq,Int.zero_sub]
theorem SpI.wt (hS:(tyS n d).isSome=true)(h:SpI n d p u kk 0 0 ys)(hu:u<2*smM n d)(hk:kk<n.toNat){w:Int}(hw:w=(wtF n d ((allR n d).getD u [])).getD kk 0) :
    SpI n d p u (kk+1) 0 0 ((ys.set (((smM n d+kk)*smN n d+spI n d u)*smN n d+spI n d u) (w%p)).set ((spI n d u*smN n d+(smM n d+kk))*smN n d+spI n d u) ((0 - w)%p)):=by
  have hi:=spI_lt hu
  have hI:=spI_H (n:=n) (d:=d) (u:=u)
  have hP:=spP_I (n:=n) (d:=d) (u:=u)
  have hh:smM n d+kk<smN n d:=by unfold smN;omega
  have hH:smH n d (smM n d+kk)=true:=by unfold smH;rw[decide_eq_true (by omega),decide_eq_true (by omega)];rfl
  rw[allR_get hu] at hw
  have e1:stE n d (smM n d+kk) (spI n d u) (spI n d u)=w:=by simp[stE,hH,hI,hw]
  have e2:=stE_anti hS hh hi (spI n d u)
  have g:=(TabI.set h hh hi hi (v:=w%p) (by rw[← e1])).set hi hh hi (v:=(0 - w)%p) (mod_neg (by rw[e2,e1]))
  refine g.alter fun a b c ha hb hc=>?_
  simp only[spD]
  cases h1:smH n d a with
  | true =>
    cases h2:smH n d b with
    | true=>exact .inl (by simp)
    | false =>
      have hb2:=spI_P h2
      by_cases e:a=smM n d+kk∧b=spI n d u
      · obtain⟨rfl,rfl⟩:=e
        by_cases e3:c=spI n d u
        · subst e3
          exact .inl (by simp[hP])
        · exact .inr (by simp[stE,hH,hI,e3])
      · refine .inl ?_
        have hba : ¬ (a=spI n d u∧b=smM n d+kk):=fun⟨q1,_⟩=>by rw[q1,hI] at h1;cases h1
        unfold smH at h1
        simp only[Bool.and_eq_true,decide_eq_true_eq] at h1
        rw[Bool.eq_iff_iff]
        simp only[if_true,Bool.false_eq_true,if_false,Bool.or_eq_true,Bool.and_eq_true,decide_eq_true_eq]
        constructor
        · rintro((q | ⟨q1,q2,q3⟩) | ⟨q1,q2,q3⟩)
          · omega
          · exact absurd ⟨q1,q2⟩ e
          · exact absurd ⟨q1,q2⟩ hba
        · rintro(q | ⟨q1,q2⟩)
          · exact .inl (.inl (.inl q))
          · by_cases q3:a - smM n d<kk
            · exact .inl (.inl (.inr ⟨q1,q3⟩))
            · exact absurd ⟨by omega,by rw[← hb2,q1]⟩ e
  | false =>
    cases h2:smH n d b with
    | true =>
      have ha2:=spI_P h1
      by_cases e:b=smM n d+kk∧a=spI n d u
      · obtain⟨rfl,rfl⟩:=e
        by_cases e3:c=spI n d u
        · subst e3
          exact .inl (by simp[hP])
        · exact .inr (by simp[stE,hH,hI,e3])
      · refine .inl ?_
        have hba : ¬ (a=smM n d+kk∧b=spI n d u):=fun⟨q1,_⟩=>by rw[q1,hH] at h1;cases h1
        unfold smH at h2
        simp only[Bool.and_eq_true,decide_eq_true_eq] at h2
        rw[Bool.eq_iff_iff]
        simp only[if_true,Bool.false_eq_true,if_false,Bool.or_eq_true,Bool.and_eq_true,decide_eq_true_eq]
        constructor
        · rintro((q | ⟨q1,q2,q3⟩) | ⟨q1,q2,q3⟩)
          · omega
          · exact absurd ⟨q1,q2⟩ hba
          · exact absurd ⟨q2,q1⟩ e
        · rintro(q | ⟨q1,q2⟩)
          · exact .inl (.inl (.inl q))
          · by_cases q3:b - smM n d<kk
            · exact .inl (.inl (.inr ⟨q1,q3⟩))
            · exact absurd ⟨by omega,by rw[← ha2,q1]⟩ e
    | false =>
      refine .inl ?_
      have q1 : ¬ a=smM n d+kk:=fun q=>by rw[q,hH] at h1;cases h1
      have q2 : ¬ b=smM n d+kk:=fun q=>by rw[q,hH] at h2;cases h2
      simp[q1,q2]
theorem spPair (hS:(tyS n d).isSome=true)(hu:u<2*smM n d)(hv:v<u){t t':Nat}{c0:Nat}(hc0:c0<smN n d)(h:SpI n d p u n.toNat v t ys){w1 w2:Int}(hw1:w1=stE n d (spI n d u) (spI n d v) c0%p)(hw2:w2=stE n d (spI n d v) (spI n d u) c0%p)
    (hz:∀ c,c<smN n d→(c<t'↔(c<t∨c=c0))∨stE n d (spI n d u) (spI n d v) c=0) :
    SpI n d p u n.toNat v t' ((ys.set ((spI n d u*smN n d+spI n d v)*smN n d+c0) w1).set ((spI n d v*smN n d+spI n d u)*smN n d+c0) w2) ∧
    SpI n d p u n.toNat v t' ((ys.set ((spI n d v*smN n d+spI n d u)*smN n d+c0) w2).set ((spI n d u*smN n d+spI n d v)*smN n d+c0) w1):=by
  have hi:=spI_lt (n:=n) (d:=d) hu
  have hj:=spI_lt (n:=n) (d:=d) (u:=v) (by omega)
  have hIu:=spI_H (n:=n) (d:=d) (u:=u)
  have hIv:=spI_H (n:=n) (d:=d) (u:=v)
  have hPu:=spP_I (n:=n) (d:=d) (u:=u)
  have hPv:=spP_I (n:=n) (d:=d) (u:=v)
  have anti:=fun c=>stE_anti hS hi hj c
  have core:∀ {D:Nat→Nat→Nat→Bool},(∀ a b c,D a b c=(spD n d u n.toNat v t a b c || (decide (a=spI n d u)&&(decide (b=spI n d v)&&decide (c=c0))) || (decide (a=spI n d v)&&(decide (b=spI n d u)&&decide (c=c0))))) →
      ∀ a b c,a<smN n d→b<smN n d→c<smN n d→D a b c=spD n d u n.toNat v t' a b c∨stE n d a b c%p=0:=fun {D} hD a b c ha hb hc=>by
    rw[hD]
    simp only[spD]
    cases h1:smH n d a with
    | true =>
      have q1 : ¬ a=spI n d u:=fun q=>by rw[q,hIu] at h1;cases h1
      have q2 : ¬ a=spI n d v:=fun q=>by rw[q,hIv] at h1;cases h1
      exact .inl (by simp[q1,q2])
    | false =>
      cases h2:smH n d b with
      | true =>
        have q1 : ¬ b=spI n d u:=fun q=>by rw[q,hIu] at h2;cases h2
        have q2 : ¬ b=spI n d v:=fun q=>by rw[q,hIv] at h2;cases h2
        exact .inl (by simp[q1,q2])
      | false =>
        have ha2:=spI_P h1
        have hb2:=spI_P h2
        have key:(a=spI n d u↔spP n d a=u)∧(a=spI n d v↔spP n d a=v)∧(b=spI n d u↔spP n d b=u)∧(b=spI n d v↔spP n d b=v):=by
          refine⟨⟨fun q=>by rw[q,hPu],fun q=>by rw[← q,ha2]⟩,⟨fun q=>by rw[q,hPv],fun q=>by rw[← q,ha2]⟩,⟨fun q=>by rw[q,hPu],fun q=>by rw[← q,hb2]⟩,⟨fun q=>by rw[q,hPv],fun q=>by rw[← q,hb2]⟩⟩
        obtain⟨k1,k2,k3,k4⟩:=key
        have hE:stE n d (spI n d u) (spI n d v) c=0→(spP n d a=u∧spP n d b=v)∨(spP n d a=v∧spP n d b=u)→stE n d a b c%p=0:=fun h0 hq=>by
          rcases hq with⟨q1,q2⟩ | ⟨q1,q2⟩
          · rw[k1.2 q1,k4.2 q2,h0,Int.zero_emod]
          · rw[k2.2 q1,k3.2 q2,anti,h0]
            rfl
        rcases hz c hc with hq | hq
        · refine .inl ?_
          rw[Bool.eq_iff_iff]
          simp only[Bool.false_eq_true,if_false,Bool.or_eq_true,Bool.and_eq_true,decide_eq_true_eq,k1,k2,k3,k4]
          omega
        · by_cases hab:(spP n d a=u∧spP n d b=v)∨(spP n d a=v∧spP n d b=u)
          · exact .inr (hE hq hab)
          · refine .inl ?_
            rw[Bool.eq_iff_iff]
            simp only[Bool.false_eq_true,if_false,Bool.or_eq_true,Bool.and_eq_true,decide_eq_true_eq,k1,k2,k3,k4]
            omega
  refine⟨((TabI.set h hi hj hc0 hw1).set hj hi hc0 hw2).alter (core fun a b c=>rfl),((TabI.set h hj hi hc0 hw2).set hi hj hc0 hw1).alter (core fun a b c=>?_)⟩
  rw[Bool.or_assoc,Bool.or_assoc]
  congr 1
  exact Bool.or_comm _ _
theorem SpI.skip (hS:(tyS n d).isSome=true)(h:SpI n d p u kk v t ys)(hu:u<2*smM n d)(hv:v<u)(h0:∀ c,c<smN n d→t≤c→stE n d (spI n d u) (spI n d v) c=0):SpI n d p u kk (v+1) 0 ys:=TabI.alter h fun a b c ha hb hc=>by
  have hi:=spI_lt (n:=n) (d:=d) hu
  have hj:=spI_lt (n:=n) (d:=d) (u:=v) (by omega)
  have anti:=fun c=>stE_anti hS hi hj c
  simp only[spD]
  cases h1:smH n d a with
  | true=>exact .inl (by simp)
  | false =>
    cases h2:smH n d b with
    | true=>exact .inl (by simp)
    | false =>
      have ha2:=spI_P h1
      have hb2:=spI_P h2
      by_cases hab:((spP n d a=u∧spP n d b=v)∨(spP n d a=v∧spP n d b=u))∧t≤c
      · refine .inr ?_
        obtain⟨⟨q1,q2⟩ | ⟨q1,q2⟩,hc2⟩:=hab
        · rw[← ha2,← hb2,q1,q2,h0 c hc hc2,Int.zero_emod]
        · rw[← ha2,← hb2,q1,q2,anti,h0 c hc hc2]
          rfl
      · refine .inl ?_
        rw[Bool.eq_iff_iff]
        simp only[Bool.false_eq_true,if_false,decide_eq_true_eq]
        omega
theorem SpI.up (hS:(tyS n d).isSome=true)(h:SpI n d p u n.toNat u 0 ys)(hu:u<2*smM n d):SpI n d p (u+1) 0 0 0 ys:=TabI.alter h fun a b c ha hb hc=>by
  simp only[spD]
  cases h1:smH n d a with
  | true =>
    cases h2:smH n d b with
    | true=>exact .inl (by simp)
    | false =>
      refine .inl ?_
      unfold smH at h1
      simp only[Bool.and_eq_true,decide_eq_true_eq] at h1
      rw[Bool.eq_iff_iff]
      simp only[if_true,Bool.false_eq_true,if_false,decide_eq_true_eq]
      omega
  | false =>
    cases h2:smH n d b with
    | true =>
      refine .inl ?_
      unfold smH at h2
      simp only[Bool.and_eq_true,decide_eq_true_eq] at h2
      rw[Bool.eq_iff_iff]
      simp only[if_true,Bool.false_eq_true,if_false,decide_eq_true_eq]
      omega
    | false =>
      have ha2:=spI_P h1
      have hb2:=spI_P h2
      by_cases e:spP n d a=u∧spP n d b=u
      · refine .inr ?_
        have:a=b:=by rw[← ha2,← hb2,e.1,e.2]
        subst this
        show stE n d a a c%p=0
        rw[stE_same hS ha,Int.zero_emod]
      · refine .inl ?_
        rw[Bool.eq_iff_iff]
        simp only[Bool.false_eq_true,if_false,decide_eq_true_eq]
        omega
theorem SpI.end_ (h:SpI n d p (2*smM n d) 0 0 0 ys):ys=stT n d p:=TabI.all h (stT_tab p) fun a b c ha hb hc=>⟨.inl (by
  simp only[spD]
  cases h1:smH n d a with
  | true =>
    cases h2:smH n d b with
    | true=>rfl
    | false =>
      have:=spP_lt hb h2
      simp[this]
  | false =>
    have ha2:=spP_lt ha h1
    cases h2:smH n d b with
    | true=>simp[ha2]
    | false =>
      have:=spP_lt hb h2
      simp only[Bool.false_eq_true,if_false,decide_eq_true_eq]
      omega),.inl rfl⟩
end
end Go.Proofs.YtbmnnbglipkidaaGreatDoor
