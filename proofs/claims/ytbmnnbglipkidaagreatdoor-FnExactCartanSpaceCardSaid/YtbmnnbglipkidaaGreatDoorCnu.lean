/-
  Constants of roots: what both texts reckon is what the table tells. No program is spoken of.
-/
import Derived.Test.YtbmnnbglipkidaaGreatDoorZ22
namespace Go.Proofs.YtbmnnbglipkidaaGreatDoor
set_option linter.unusedVariables false
set_option linter.unusedSimpArgs false
theorem knd_all {chk:Int→List Int→Bool}(h1:cndP chk 1 0 256=true)(h2:cndP chk 2 0 256=true)(h3:cndP chk 3 0 256=true)
    (h4:cndP chk 4 0 32=true) (h5:cndP chk 4 32 32=true) (h6:cndP chk 4 64 32=true) (h7:cndP chk 4 96 32=true) (h8:cndP chk 4 128 32=true) (h9:cndP chk 4 160 32=true) (ha:cndP chk 4 192 32=true) (hb:cndP chk 4 224 32=true)
    {n:Int} {d:List Int} (hS:(tyS n d).isSome=true):chk n d=true :=
  cnd_all h1 h2 h3 (knd_join (b:=32) (c:=32) h4 h5) (knd_join (b:=32) (c:=32) h6 h7) (knd_join (b:=32) (c:=32) h8 h9) (knd_join (b:=32) (c:=32) ha hb) hS
theorem contains_mem {L:List (List Int)}{x:List Int}:L.contains x=true↔x∈L:=List.contains_iff_mem
theorem cnF_map {h:List Int→Int}{u:List Int}:∀ L:List (List Int),cnF (L.map fun r=>(r,h r)) u=if L.contains u then h u else 0
  | []=>rfl
  | r::t=>by
    rw[List.map_cons,cnF,cnF_map t,lq_eq,List.contains_cons]
    by_cases e:r=u
    · subst e
      simp
    · have e2:(u==r)=false:=by simpa using fun h=>e h.symm
      rw[decide_eq_false e,e2]
      rfl
def hn (n:Int)(d u:List Int):Int:=ipl n d (lenF n d) u / 2
theorem cnF_rh {n:Int}{d u:List Int}:cnF (cnRH n d) u=if (rSt n d).contains u then hn n d u else 0:=cnF_map _
section
variable {n:Int}{d:List Int}
theorem root_get (hS:(tyS n d).isSome=true){x:List Int}(hx:x∈rSt n d):x.length=n.toNat∧ten x:=by
  obtain⟨h1,h2⟩:=(rtOk hS).smem hx
  exact⟨h1,fun j=>by have:=h2 j;omega⟩
theorem sP_pos:∀ {x:List Int},(∀ j,0≤x.getD j 0)→0≤sP x∧∀ j,x.getD j 0≤sP x
  | [],_=>⟨Int.le_refl _,fun j=>by simp[sP]⟩
  | a::t,h=>by
    have h0:=h 0
    obtain⟨h1,h2⟩:=sP_pos (x:=t) fun j=>by have:=h (j+1);simpa [List.getD] using this
    have h3:0≤a:=by simpa [List.getD] using h0
    refine⟨by rw[sP];omega,fun j=>?_⟩
    rw[sP]
    cases j with
    | zero=>simp[List.getD];omega
    | succ j=>have:=h2 j;simp[List.getD] at this ⊢;omega
theorem sP_root (hS:(tyS n d).isSome=true){x:List Int}(hx:x∈rSt n d):1≤sP x:=by
  obtain⟨h1,h2⟩:=(rtOk hS).smem hx
  obtain⟨k,hk,h3⟩:=(rnOk hS).nz x hx
  have:=(sP_pos fun j=>(h2 j).1).2 k
  omega
theorem rt_in {R:List (List Int)}{x:List Int}(hx:x∈R):rtB R x=true:=by rw[rtB,contains_mem.2 hx];rfl
theorem rt_mn {R:List (List Int)}{x:List Int}(hx:x∈R):rtB R (mnF x)=true:=by rw[rtB_mn];exact rt_in hx
theorem rt_or {R:List (List Int)}{x:List Int}(hx:rtB R x=true):x∈R∨mnF x∈R:=by
  rw[rtB,Bool.or_eq_true,contains_mem,contains_mem] at hx
  exact hx
theorem rt_pos (hS:(tyS n d).isSome=true){x:List Int}(hx:rtB (rSt n d) x=true)(h:0<sP x):x∈rSt n d:=by
  rcases rt_or hx with h1 | h1
  · exact h1
  · have:=sP_root hS h1
    rw[sP_mn] at this
    omega
theorem rt_neg (hS:(tyS n d).isSome=true){x:List Int}(hx:rtB (rSt n d) x=true)(h : ¬ 0<sP x):mnF x∈rSt n d∧sP x<0:=by
  rcases rt_or hx with h1 | h1
  · have:=sP_root hS h1
    omega
  · have:=sP_root hS h1
    rw[sP_mn] at this
    exact⟨h1,by omega⟩
theorem rt_nz (hS:(tyS n d).isSome=true){x:List Int}(hx:rtB (rSt n d) x=true):0<sP x∨sP x<0:=by
  by_cases h:0<sP x
  · exact .inl h
  · exact .inr (rt_neg hS hx h).2
theorem hn_mn (u:List Int):hn n d (mnF u)=hn n d u:=by rw[hn,hn,ipl_minus]
theorem cnH_rh (hS:(tyS n d).isSome=true)(u:List Int):cnH (cnRH n d) u=if rtB (rSt n d) u then hn n d u else 0:=by
  rw[cnH,rcL_eq,cnF_rh,cnF_rh,hn_mn,rtB]
  by_cases h:0<sP u
  · have h2:(rSt n d).contains (mnF u)=false:=by
      cases e:(rSt n d).contains (mnF u) with
      | false=>rfl
      | true =>
        have:=sP_root hS (contains_mem.1 e)
        rw[sP_mn] at this
        omega
    rw[decide_eq_true h,h2,Bool.or_false]
    rfl
  · have h2:(rSt n d).contains u=false:=by
      cases e:(rSt n d).contains u with
      | false=>rfl
      | true =>
        have:=sP_root hS (contains_mem.1 e)
        omega
    rw[decide_eq_false h,h2,Bool.false_or]
    rfl
theorem hn_two (hS:(tyS n d).isSome=true){u:List Int}(hu:rtB (rSt n d) u=true):1≤hn n d u:=by
  have key:∀ {v},v∈rSt n d→1≤hn n d v:=fun {v} hv=>by
    have:=(rnOk hS).pos v hv
    rw[hn]
    omega
  rcases rt_or hu with h | h
  · exact key h
  · have:=key h
    rwa [hn_mn] at this
theorem cnH_nz (hS:(tyS n d).isSome=true)(u:List Int):decide (cnH (cnRH n d) u=0) = !(rtB (rSt n d) u):=by
  rw[cnH_rh hS]
  cases e:rtB (rSt n d) u with
  | false=>simp
  | true =>
    have:=hn_two hS e
    simp
    omega
theorem cnF_nz (hS:(tyS n d).isSome=true)(u:List Int):decide (cnF (cnRH n d) u=0) = !((rSt n d).contains u):=by
  rw[cnF_rh]
  cases e:(rSt n d).contains u with
  | false=>simp
  | true =>
    have:=hn_two hS (rt_in (contains_mem.1 e))
    simp
    omega
def tb (n:Int)(d z x:List Int):Int:=cnTab (cnTT n d) z x
theorem nF_un (hS:(tyS n d).isSome=true)(x y:List Int):nF n d x y=if rtB (rSt n d) (lA x 1 y)=true then
    (if 0<sP x then(if 0<sP y then tb n d (lA x 1 y) x else cnPn (cnRH n d) (cnTT n d) x y (lA x 1 y) (hn n d (lA x 1 y)))
    else if 0<sP y then -(cnPn (cnRH n d) (cnTT n d) y x (lA x 1 y) (hn n d (lA x 1 y))) else -(tb n d (mnF (lA x 1 y)) (mnF x))) else 0:=by
  rw[nF,cnN,rcL_eq,rcZ_eq,rcL_eq,rcL_eq,cnH_nz hS,cnH_rh hS]
  cases rtB (rSt n d) (lA x 1 y) with
  | false=>rfl
  | true =>
    by_cases h1:0<sP x
    · by_cases h2:0<sP y
      · simp[h1,h2,tb]
      · simp[h1,h2]
    · by_cases h2:0<sP y
      · simp[h1,h2]
      · simp[h1,h2,tb]
theorem cnPn_un (hS:(tyS n d).isSome=true){x y z:List Int}(hx:x∈rSt n d)(hy:mnF y∈rSt n d)(h:Int):cnPn (cnRH n d) (cnTT n d) x y z h=if 0<sP z then -((h*tb n d x (mnF y)).tdiv (hn n d x)) else(h*tb n d (mnF y) (mnF z)).tdiv (hn n d y):=by
  rw[cnPn,rcL_eq,rcL_eq,rcL_eq,cnF_rh,cnF_rh,if_pos (contains_mem.2 hx),if_pos (contains_mem.2 hy),hn_mn]
  by_cases h1:0<sP z
  · simp[h1,tb]
  · simp[h1,tb]
theorem cnCh {one:List (List Int × Int)→List (List Int × List (List Int × Int))→List Int→Int→List Int→List Int→Nat→List Int→Bool}
    (h:(rcLL (rSt n d) fun R=>rcL (lenF n d) fun l=>cnRHK n d l R [] fun RH=>chkKnW RH (one RH))=true) {z:List Int} (hz:z∈rSt n d) :
    cnRch (cnRH n d) (cnFst (cnRH n d) z (cnRH n d)).2 (cnFst (cnRH n d) z (cnRH n d)).1≤3∧hn n d z≤3∧∀ x∈rSt n d,one (cnRH n d) (cnTT n d) z (hn n d z) (cnFst (cnRH n d) z (cnRH n d)).1 (cnFst (cnRH n d) z (cnRH n d)).2 (cnRch (cnRH n d) (cnFst (cnRH n d) z (cnRH n d)).2 (cnFst (cnRH n d) z (cnRH n d)).1+1) x=true:=by
  rw[rcLL_eq,rcL_eq,cnRHK_eq] at h
  change chkKnW (cnRH n d) (one (cnRH n d))=true at h
  rw[chkKnW,cnTabK_eq] at h
  change ((cnRH n d).all _)=true at h
  rw[List.all_eq_true] at h
  have hm:∀ {x},x∈rSt n d→(x,hn n d x)∈cnRH n d:=fun {x} hx=>List.mem_map.2 ⟨x,hx,rfl⟩
  have h1:=h _ (hm hz)
  simp only[rcN_eq,Bool.and_eq_true,decide_eq_true_eq,List.all_eq_true] at h1
  obtain⟨a1,a2,a3,a4⟩:=h1
  exact⟨Nat.le_of_ble_eq_true a1,a3,fun x hx=>a4 _ (hm hx)⟩
theorem cnAll (hS:(tyS n d).isSome=true):chkKn n d=true:=knd_all chkKn_1 chkKn_2 chkKn_3 chkKn_4a chkKn_4b chkKn_5a chkKn_5b chkKn_6a chkKn_6b chkKn_7a chkKn_7b hS
structure Dec (n:Int)(d z x y:List Int):Prop where
  hz:z∈rSt n d
  hx:x∈rSt n d
  hy:y∈rSt n d
  eq:y=lA z (-1) x
theorem lA_back {x y:List Int}(h:y.length=x.length):lA (lA x 1 y) (-1) x=y:=ext_getD (by rw[lA_len (by rw[lA_len h]),lA_len h,h]) fun j hj=>by
  rw[lA_len (by rw[lA_len h]),lA_len h] at hj
  rw[lA_get (by rw[lA_len h];exact hj) (by rw[lA_len h]),lA_get hj h]
  omega
theorem lA_back2 {z x:List Int}(h:x.length=z.length):lA x 1 (lA z (-1) x)=z:=ext_getD (by rw[lA_len (by rw[lA_len h,h]),h]) fun j hj=>by
  rw[lA_len (by rw[lA_len h,h])] at hj
  rw[lA_get hj (by rw[lA_len h,h]),lA_get (by omega) h]
  omega
theorem lA_comm {x y:List Int}(h:y.length=x.length):lA x 1 y=lA y 1 x:=ext_getD (by rw[lA_len h,lA_len h.symm,h]) fun j hj=>by
  rw[lA_len h] at hj
  rw[lA_get hj h,lA_get (by omega) h.symm]
  omega
theorem lA_mn {x y:List Int}(k:Int)(h:y.length=x.length):lA x k (mnF y)=lA x (-k) y:=ext_getD (by rw[lA_len (by rw[mnF_len];exact h),lA_len h]) fun j hj=>by
  rw[lA_len (by rw[mnF_len];exact h)] at hj
  rw[lA_get hj (by rw[mnF_len];exact h),lA_get hj h,mnF_get,Int.mul_neg,Int.neg_mul]
theorem mn_lA {x y:List Int}(k:Int)(h:y.length=x.length):mnF (lA x k y)=lA (mnF x) (-k) y:=ext_getD (by rw[mnF_len,lA_len h,lA_len (by rw[mnF_len];exact h),mnF_len]) fun j hj=>by
  rw[mnF_len,lA_len h] at hj
  rw[mnF_get,lA_get hj h,lA_get (by rw[mnF_len];exact hj) (by rw[mnF_len];exact h),mnF_get,Int.neg_mul]
  omega
theorem Dec.sum (hS:(tyS n d).isSome=true){z x y:List Int}(h:Dec n d z x y):lA x 1 y=z∧lA y 1 x=z∧x=lA z (-1) y:=by
  have h1:=(root_get hS h.hz).1
  have h2:=(root_get hS h.hx).1
  have h3:=(root_get hS h.hy).1
  have e:lA x 1 y=z:=by rw[h.eq];exact lA_back2 (by omega)
  have e2:lA y 1 x=z:=by rw[← lA_comm (by omega)];exact e
  exact⟨e,e2,by rw[← e2];exact(lA_back (by omega)).symm⟩
theorem dec_of (hS:(tyS n d).isSome=true){x y:List Int}(hx:x∈rSt n d)(hy:y∈rSt n d)(hz:lA x 1 y∈rSt n d):Dec n d (lA x 1 y) x y:=by
  have h2:=(root_get hS hx).1
  have h3:=(root_get hS hy).1
  exact⟨hz,hx,hy,(lA_back (by omega)).symm⟩
theorem tb_at (hS:(tyS n d).isSome=true){z x y:List Int}(h:Dec n d z x y) :
    tb n d z x=cnE (cnRH n d) (cnTT n d) z (hn n d z) (cnFst (cnRH n d) z (cnRH n d)).1 (cnFst (cnRH n d) z (cnRH n d)).2 (cnRch (cnRH n d) (cnFst (cnRH n d) z (cnRH n d)).2 (cnFst (cnRH n d) z (cnRH n d)).1+1) x y ∧
    (-4≤tb n d z x∧tb n d z x≤4)∧tb n d z y = -(tb n d z x):=by
  have h1:=(cnCh (cnAll hS) h.hz).2.2 x h.hx
  rw[cnOne,rcL_eq,rcZ_eq,← h.eq,cnF_nz hS,contains_mem.2 h.hy] at h1
  simp only[Bool.not_true,Bool.false_or,Bool.and_eq_true,decide_eq_true_eq] at h1
  obtain⟨a1,a2,a3,a4⟩:=h1
  exact⟨a1,⟨a2,a3⟩,a4⟩
theorem hn_bd (hS:(tyS n d).isSome=true){u:List Int}(hu:rtB (rSt n d) u=true):1≤hn n d u∧hn n d u≤3:=by
  refine⟨hn_two hS hu,?_⟩
  rcases rt_or hu with h | h
  · exact(cnCh (cnAll hS) h).2.1
  · have:=(cnCh (cnAll hS) h).2.1
    rwa [hn_mn] at this
end
end Go.Proofs.YtbmnnbglipkidaaGreatDoor
