/-
  Constants of roots: each step of the two recursions, in the words of the walks; what falls from call to call. No program is spoken of.
-/
import Derived.Test.YtbmnnbglipkidaaGreatDoorCnu
namespace Go.Proofs.YtbmnnbglipkidaaGreatDoor
set_option linter.unusedVariables false
set_option linter.unusedSimpArgs false
section
variable {n:Int}{d:List Int}
theorem rt_tens (hS:(tyS n d).isSome=true){x:List Int}(hx:rtB (rSt n d) x=true):x.length=n.toNat∧ten x∧n.toNat≤4:=by
  have h:=rtOk hS
  have hlo:=h.lo
  have hrk:=h.rk
  obtain⟨h1,h2⟩:=h.tens hx
  exact⟨by omega,h2,hrk⟩
theorem lp_of (hS:(tyS n d).isSome=true){x y:List Int}{k:Int}(hk:k=1∨k = -1)(hx:rtB (rSt n d) x=true)(hy:rtB (rSt n d) y=true):lpF x k y=lA x k y:=by
  obtain⟨x1,x2,_⟩:=rt_tens hS hx
  obtain⟨y1,y2,_⟩:=rt_tens hS hy
  exact lp_lA (by omega) (by omega) (ten_fif x2) (ten_fif y2)
theorem sw_of (hS:(tyS n d).isSome=true){x:List Int}(hx:rtB (rSt n d) x=true):sumW x=sP x:=by
  obtain⟨x1,x2,x3⟩:=rt_tens hS hx
  exact sumW_sP (fun j _=>by have:=x2 j;omega) (by omega)
theorem ng_of (hS:(tyS n d).isSome=true){x:List Int}(hx:rtB (rSt n d) x=true):ngF x=mnF x:=by
  obtain⟨x1,x2,x3⟩:=rt_tens hS hx
  have hlo:=(rtOk hS).lo
  exact wt_minus (n:=n) (wtOk_of (by omega) fun k _=>by have:=x2 k;omega)
theorem hf_of (hS:(tyS n d).isSome=true){x:List Int}(hx:rtB (rSt n d) x=true):hfF n d x=hn n d x:=by
  obtain⟨x1,x2,x3⟩:=rt_tens hS hx
  have hlo:=(rtOk hS).lo
  have hw:wtOk n x=true:=wtOk_of (by omega) fun k _=>by have:=x2 k;omega
  have h2:=rt_two hS hw hx
  have hb:=inF_bd hS hw hw
  rw[hfF,hn,← inF_ipl hS hw,Int.tdiv_eq_ediv_of_nonneg (by omega),wrap_in (by omega) (by omega)]
theorem lenR_of (hS:(tyS n d).isSome=true){x y:List Int}(hx:rtB (rSt n d) x=true)(hy:rtB (rSt n d) y=true):y.length=x.length:=by
  have h1:=(rt_tens hS hx).1
  have h2:=(rt_tens hS hy).1
  omega
theorem sP_add (hS:(tyS n d).isSome=true){x y:List Int}(hx:rtB (rSt n d) x=true)(hy:rtB (rSt n d) y=true):sP (lA x 1 y)=sP x+sP y:=by rw[sP_lA (lenR_of hS hx hy),Int.one_mul]
theorem nF_no (hS:(tyS n d).isSome=true){x y:List Int}(h:rtB (rSt n d) (lA x 1 y)=false):nF n d x y=0:=by
  rw[nF_un hS,h]
  rfl
theorem nF_pp (hS:(tyS n d).isSome=true){x y:List Int}(hz:rtB (rSt n d) (lA x 1 y)=true)(h1:0<sP x)(h2:0<sP y):nF n d x y=tb n d (lA x 1 y) x:=by
  rw[nF_un hS,if_pos hz,if_pos h1,if_pos h2]
theorem mn_add (hS:(tyS n d).isSome=true){x y:List Int}(hx:rtB (rSt n d) x=true)(hy:rtB (rSt n d) y=true):lA (mnF x) 1 (mnF y)=mnF (lA x 1 y):=by
  have h:=lenR_of hS hx hy
  rw[mn_lA 1 h,lA_mn 1 (by rw[mnF_len];exact h)]
theorem nF_nn (hS:(tyS n d).isSome=true){x y:List Int}(hx:rtB (rSt n d) x=true)(hy:rtB (rSt n d) y=true)(h1 : ¬ 0<sP x)(h2 : ¬ 0<sP y):nF n d x y = -(nF n d (mnF x) (mnF y)):=by
  have a1:=(rt_neg hS hx h1).2
  have a2:=(rt_neg hS hy h2).2
  rw[nF_un hS x y,nF_un hS (mnF x),mn_add hS hx hy,rtB_mn,sP_mn,sP_mn]
  by_cases h:rtB (rSt n d) (lA x 1 y)=true
  · rw[if_pos h,if_pos h,if_neg h1,if_neg h2,if_pos (by omega),if_pos (by omega)]
  · rw[if_neg h,if_neg h]
    rfl
theorem nF_np (hS:(tyS n d).isSome=true){x y:List Int}(hx:rtB (rSt n d) x=true)(hy:rtB (rSt n d) y=true)(h1 : ¬ 0<sP x)(h2:0<sP y):nF n d x y = -(nF n d y x):=by
  rw[nF_un hS x y,nF_un hS y x,lA_comm (x:=y) (lenR_of hS hy hx)]
  by_cases h:rtB (rSt n d) (lA x 1 y)=true
  · rw[if_pos h,if_pos h,if_neg h1,if_pos h2,if_pos h2,if_neg h1]
  · rw[if_neg h,if_neg h]
    rfl
theorem nF_pn (hS:(tyS n d).isSome=true){x y:List Int}(hx:rtB (rSt n d) x=true)(hy:rtB (rSt n d) y=true)(hz:rtB (rSt n d) (lA x 1 y)=true)(h1:0<sP x)(h2 : ¬ 0<sP y) :
    nF n d x y=if 0<sP (lA x 1 y) then -((hn n d (lA x 1 y)*tb n d x (mnF y)).tdiv (hn n d x)) else(hn n d (lA x 1 y)*tb n d (mnF y) (mnF (lA x 1 y))).tdiv (hn n d y):=by
  rw[nF_un hS,if_pos hz,if_pos h1,if_neg h2]
  exact cnPn_un hS (rt_pos hS hx h1) (rt_neg hS hy h2).1 _
theorem lA_out (hS:(tyS n d).isSome=true){x y:List Int}(hx:rtB (rSt n d) x=true)(hy:rtB (rSt n d) y=true):lA y 1 (mnF (lA x 1 y))=mnF x:=by
  have h:=lenR_of hS hx hy
  refine ext_getD (by rw[lA_len (by rw[mnF_len,lA_len h,h]),mnF_len,h]) fun j hj=>?_
  rw[lA_len (by rw[mnF_len,lA_len h,h])] at hj
  rw[lA_get hj (by rw[mnF_len,lA_len h,h]),mnF_get,mnF_get,lA_get (by omega) h]
  omega
theorem lA_out2 (hS:(tyS n d).isSome=true){x y:List Int}(hx:rtB (rSt n d) x=true)(hy:rtB (rSt n d) y=true):lA (mnF y) 1 (lA x 1 y)=x:=by
  have h:=lenR_of hS hx hy
  refine ext_getD (by rw[lA_len (by rw[mnF_len,lA_len h,h]),mnF_len,h]) fun j hj=>?_
  rw[lA_len (by rw[mnF_len,lA_len h,h]),mnF_len] at hj
  rw[lA_get (by rw[mnF_len];exact hj) (by rw[mnF_len,lA_len h,h]),mnF_get,lA_get (by omega) h]
  omega
theorem lA_out3 (hS:(tyS n d).isSome=true){x y:List Int}(hx:rtB (rSt n d) x=true)(hy:rtB (rSt n d) y=true):lA (mnF (lA x 1 y)) 1 x=mnF y:=by
  have h:=lenR_of hS hx hy
  refine ext_getD (by rw[lA_len (by rw[mnF_len,lA_len h]),mnF_len,lA_len h,mnF_len,h]) fun j hj=>?_
  rw[lA_len (by rw[mnF_len,lA_len h]),mnF_len,lA_len h] at hj
  rw[lA_get (by rw[mnF_len,lA_len h];exact hj) (by rw[mnF_len,lA_len h]),mnF_get,mnF_get,lA_get hj h]
  omega
theorem nF_pnP (hS:(tyS n d).isSome=true){x y:List Int}(hx:rtB (rSt n d) x=true)(hy:rtB (rSt n d) y=true)(hz:rtB (rSt n d) (lA x 1 y)=true)(h1:0<sP x)(h2 : ¬ 0<sP y)(h3:0<sP (lA x 1 y)) :
    nF n d x y=(hn n d (lA x 1 y)*nF n d y (mnF (lA x 1 y))).tdiv (hn n d x):=by
  have hmz:rtB (rSt n d) (mnF (lA x 1 y))=true:=by rw[rtB_mn];exact hz
  have e:nF n d y (mnF (lA x 1 y)) = -(tb n d x (mnF y)):=by
    rw[nF_un hS,lA_out hS hx hy,rtB_mn,if_pos hx,if_neg h2,if_neg (by rw[sP_mn];omega),mnF_mnF]
  rw[nF_pn hS hx hy hz h1 h2,if_pos h3,e,Int.mul_neg,Int.neg_tdiv]
theorem nF_pnN (hS:(tyS n d).isSome=true){x y:List Int}(hx:rtB (rSt n d) x=true)(hy:rtB (rSt n d) y=true)(hz:rtB (rSt n d) (lA x 1 y)=true)(h1:0<sP x)(h2 : ¬ 0<sP y)(h3 : ¬ 0<sP (lA x 1 y)) :
    nF n d x y=(hn n d (lA x 1 y)*nF n d (mnF (lA x 1 y)) x).tdiv (hn n d y):=by
  have a3:=(rt_neg hS hz h3).2
  have e:nF n d (mnF (lA x 1 y)) x=tb n d (mnF y) (mnF (lA x 1 y)):=by
    rw[nF_un hS,lA_out3 hS hx hy,rtB_mn,if_pos hy,if_pos (by rw[sP_mn];omega),if_pos h1]
  rw[nF_pn hS hx hy hz h1 h2,if_neg h3,e]
theorem nF_bd (hS:(tyS n d).isSome=true){x y:List Int}(hx:rtB (rSt n d) x=true)(hy:rtB (rSt n d) y=true) : -12≤nF n d x y∧nF n d x y≤12:=by
  have tq:∀ {h t g:Int},1≤h∧h≤3 → -4≤t∧t≤4→1≤g → -12≤(h*t).tdiv g∧(h*t).tdiv g≤12:=fun {h t g} a b c=>by
    have hm:=mul_abs (a:=h) (b:=t) (A:=3) (B:=4) (by omega) (by omega)
    exact tdiv_abs c (by omega)
  cases hz:rtB (rSt n d) (lA x 1 y) with
  | false=>rw[nF_no hS hz];omega
  | true =>
    have bz:=hn_bd hS hz
    have key:∀ {x y:List Int},rtB (rSt n d) x=true→rtB (rSt n d) y=true→rtB (rSt n d) (lA x 1 y)=true→0<sP x → -12≤nF n d x y∧nF n d x y≤12:=fun {x y} hx hy hz h1=>by
      have bz:=hn_bd hS hz
      have mx:=rt_pos hS hx h1
      by_cases h2:0<sP y
      · have:=(tb_at hS (dec_of hS mx (rt_pos hS hy h2) (rt_pos hS hz (by rw[sP_add hS hx hy];omega)))).2.1
        rw[nF_pp hS hz h1 h2]
        omega
      · have my:=(rt_neg hS hy h2).1
        rw[nF_pn hS hx hy hz h1 h2]
        split
        · rename_i h3
          have mz:=rt_pos hS hz h3
          have D:Dec n d x (mnF y) (lA x 1 y):=by
            have e:x=lA (lA x 1 y) 1 (mnF y):=by rw[← lA_comm (lenR_of hS (rt_in my) hz)];exact(lA_out2 hS hx hy).symm
            have:=dec_of hS my mz (by rw[lA_out2 hS hx hy];exact mx)
            rwa [lA_out2 hS hx hy] at this
          have h4:=(tb_at hS D).2.1
          have h5:=tq bz h4 (hn_bd hS hx).1
          omega
        · rename_i h3
          have mz:=(rt_neg hS hz h3).1
          have D:Dec n d (mnF y) (mnF (lA x 1 y)) x:=by
            have:=dec_of hS mz mx (by rw[lA_out3 hS hx hy];exact my)
            rwa [lA_out3 hS hx hy] at this
          exact tq bz (tb_at hS D).2.1 (hn_bd hS hy).1
    by_cases h1:0<sP x
    · exact key hx hy hz h1
    · by_cases h2:0<sP y
      · have:=key hy hx (by rw[← lA_comm (lenR_of hS hx hy)];exact hz) h2
        rw[nF_np hS hx hy h1 h2]
        omega
      · have h3:=(rt_neg hS hx h1).2
        have:=key (x:=mnF x) (y:=mnF y) (by rw[rtB_mn];exact hx) (by rw[rtB_mn];exact hy) (by rw[mn_add hS hx hy,rtB_mn];exact hz) (by rw[sP_mn];omega)
        rw[nF_nn hS hx hy h1 h2]
        omega
def cnK (x y:List Int):Nat:=if 0<sP x then(if 0<sP y then 0 else 2) else(if 0<sP y then 3 else 1)
def cnM (x y:List Int):Nat:=4*max (max (sP x).natAbs (sP y).natAbs) (sP x+sP y).natAbs+cnK x y
theorem cnM_nn {x y:List Int}(h1:sP x<0)(h2:sP y<0):cnM (mnF x) (mnF y)<cnM x y:=by
  unfold cnM cnK
  rw[sP_mn,sP_mn,if_pos (by omega),if_pos (by omega),if_neg (show ¬ 0<sP x by omega),if_neg (show ¬ 0<sP y by omega)]
  omega
theorem cnM_np {x y:List Int}(h1:sP x<0)(h2:0<sP y):cnM y x<cnM x y:=by
  unfold cnM cnK
  rw[if_pos h2,if_neg (show ¬ 0<sP x by omega),if_neg (show ¬ 0<sP x by omega),if_pos h2]
  omega
theorem cnM_pnP {x y z:List Int}(h1:0<sP x)(h2:sP y<0)(hz:sP z=sP x+sP y)(h3:0<sP z):cnM y (mnF z)<cnM x y:=by
  unfold cnM cnK
  rw[sP_mn,if_neg (show ¬ 0<sP y by omega),if_neg (show ¬ 0 < -(sP z) by omega),if_pos h1,if_neg (show ¬ 0<sP y by omega)]
  omega
theorem cnM_pnN {x y z:List Int}(h1:0<sP x)(h2:sP y<0)(hz:sP z=sP x+sP y)(h3:sP z<0):cnM (mnF z) x<cnM x y:=by
  unfold cnM cnK
  rw[sP_mn,if_pos (show 0 < -(sP z) by omega),if_pos h1,if_pos h1,if_neg (show ¬ 0<sP y by omega)]
  omega
theorem cnM_pp {x y:List Int}(h1:0<sP x)(h2:0<sP y):cnM x y=4*(sP x+sP y).natAbs:=by
  unfold cnM cnK
  rw[if_pos h1,if_pos h2]
  omega
theorem cnM_in {x y f g:List Int}(h1:0<sP x)(h2:0<sP y)(h3:0<sP f)(h4:0<sP g)(hs:sP f+sP g=sP x+sP y){m:Nat}(hm:4*(sP x+sP y).natAbs≤m):cnM y (mnF f)<m∧cnM x (mnF g)<m∧cnM (mnF f) x<m∧cnM y (mnF g)<m:=by
  unfold cnM cnK
  rw[sP_mn,sP_mn,if_pos h1,if_pos h2,if_pos h1,if_pos h2]
  refine⟨?_,?_,?_,?_⟩ <;> split <;> omega
end
end Go.Proofs.YtbmnnbglipkidaaGreatDoor
