/-
  Constants of roots: what each return of the two recursions owes, and what each call asks. No program is spoken of but what lies in maps and slices.
-/
import Derived.Test.YtbmnnbglipkidaaGreatDoorZ26
namespace Go.Proofs.YtbmnnbglipkidaaGreatDoor
set_option linter.unusedVariables false
set_option linter.unusedSimpArgs false
theorem getR_mem {L:List (List Int)}{k:Nat}(hk:k<L.length):L.getD k []∈L:=by
  have e:L.getD k []=L[k]:=by simp[List.getD,hk]
  rw[e]
  exact List.getElem_mem hk
def memA (g:Nat)(n:Int)(d:List Int):Asn:=hdn (fun kv:List ((List Int × List Int) × Int)=>KpOk n d kv) fun kv=>[mapA keyP valI g kv]
section
variable {P:Program}{n:Int}{d:List Int}{W:World}{own:List Asn}{env:List (Nat × Value)}{m g:Nat}{Q:Exit→Act→World→Prop}{kv:List ((List Int × List Int) × Int)}
theorem GC.memOpen {c:Code}(h:∀ kv,KpOk n d kv→GC P c Q m env W (mapA keyP valI g kv::own)):GC P c Q m env W (memA g n d::own):=GC.hdnOpen h
theorem GC.memClose {c:Code}(hk:KpOk n d kv)(h:GC P c Q m env W (memA g n d::own)):GC P c Q m env W (mapA keyP valI g kv::own):=GC.hdnClose (L:=fun kv=>[mapA keyP valI g kv]) kv hk h
theorem GE.memClose {e:Exit}(hk:KpOk n d kv)(h:GE e Q m env W (memA g n d::own)):GE e Q m env W (mapA keyP valI g kv::own):=GE.hdnClose (L:=fun kv=>[mapA keyP valI g kv]) kv hk h
variable {eB eI:Nat}{vd vv:Value}{ds:List Bool}{vs:List Int}
end
section
variable {n:Int}{d:List Int}{x y:List Int}
theorem rt_64 (hS:(tyS n d).isSome=true)(hx:rtB (rSt n d) x=true):All64 x:=fun y hy=>by
  obtain⟨k,hk,rfl⟩:=List.mem_iff_getElem.1 hy
  have:=(rt_tens hS hx).2.1 k
  have e:x.getD k 0=x[k]:=by simp[List.getD,hk]
  rw[e] at this
  exact⟨by omega,by omega⟩
theorem rt_ng (hS:(tyS n d).isSome=true)(hx:rtB (rSt n d) x=true):rtB (rSt n d) (ngF x)=true:=by rw[ng_of hS hx,rtB_mn];exact hx
theorem lp1 (hS:(tyS n d).isSome=true)(hx:rtB (rSt n d) x=true)(hy:rtB (rSt n d) y=true):lpF x 1 y=lA x 1 y:=lp_of hS (.inl rfl) hx hy
theorem of_rt (hS:(tyS n d).isSome=true)(hx:rtB (rSt n d) x=true)(hy:rtB (rSt n d) y=true):fdB n (rKvs n d) (lpF x 1 y)=rtB (rSt n d) (lpF x 1 y):=((rtOk hS).any (lpF_all64 (rt_64 hS hx))).symm
theorem of_no (hS:(tyS n d).isSome=true)(hx:rtB (rSt n d) x=true)(hy:rtB (rSt n d) y=true)(h:rtB (rSt n d) (lpF x 1 y)=false):0=nF n d x y:=by
  rw[lp1 hS hx hy] at h
  exact(nF_no hS h).symm
theorem w0 {a:Int}(h : -1000≤a∧a≤1000):IntKind.i64.wrap (0 - a) = -a:=by
  rw[wrap_in (by omega) (by omega)]
  omega
theorem wq {h a g:Int}(hh:1≤h∧h≤3)(ha : -12≤a∧a≤12)(hg:1≤g):IntKind.i64.wrap ((IntKind.i64.wrap (h*a)).tdiv g)=(h*a).tdiv g ∧ -36≤(h*a).tdiv g∧(h*a).tdiv g≤36:=by
  have h1:=mul_abs (a:=h) (b:=a) (A:=3) (B:=12) (by omega) (by omega)
  have h2:=tdiv_abs (a:=h*a) hg (A:=36) (by omega)
  rw[wrap_in (x:=h*a) (by omega) (by omega),wrap_in (by omega) (by omega)]
  exact⟨rfl,h2⟩
theorem nF_sm (hS:(tyS n d).isSome=true)(hx:rtB (rSt n d) x=true)(hy:rtB (rSt n d) y=true) : -1000≤nF n d x y∧nF n d x y≤1000:=by
  have:=nF_bd hS hx hy
  omega
theorem ng_of' (hS:(tyS n d).isSome=true)(hx:rtB (rSt n d) x=true)(hy:rtB (rSt n d) y=true)(hz:rtB (rSt n d) (lpF x 1 y)=true):ngF (lpF x 1 y)=mnF (lA x 1 y):=by rw[ng_of hS hz,lp1 hS hx hy]
theorem of_nn (hS:(tyS n d).isSome=true)(hx:rtB (rSt n d) x=true)(hy:rtB (rSt n d) y=true)(h1 : ¬ 0<sP x)(h2 : ¬ 0<sP y):IntKind.i64.wrap (0 - nF n d (ngF x) (ngF y))=nF n d x y:=by
  rw[w0 (nF_sm hS (rt_ng hS hx) (rt_ng hS hy)),ng_of hS hx,ng_of hS hy,nF_nn hS hx hy h1 h2]
theorem of_np (hS:(tyS n d).isSome=true)(hx:rtB (rSt n d) x=true)(hy:rtB (rSt n d) y=true)(h1 : ¬ 0<sP x)(h2:0<sP y):IntKind.i64.wrap (0 - nF n d y x)=nF n d x y:=by
  rw[w0 (nF_sm hS hy hx),nF_np hS hx hy h1 h2]
theorem of_pnP (hS:(tyS n d).isSome=true)(hx:rtB (rSt n d) x=true)(hy:rtB (rSt n d) y=true)(hz:rtB (rSt n d) (lpF x 1 y)=true)(h1:0<sP x)(h2 : ¬ 0<sP y)(h3:0<sP (lpF x 1 y)) :
    IntKind.i64.wrap ((IntKind.i64.wrap (hn n d (lpF x 1 y)*nF n d y (ngF (lpF x 1 y)))).tdiv (hn n d x))=nF n d x y:=by
  rw[(wq (hn_bd hS hz) (nF_bd hS hy (rt_ng hS hz)) (hn_bd hS hx).1).1,ng_of' hS hx hy hz]
  rw[lp1 hS hx hy] at hz h3 ⊢
  exact(nF_pnP hS hx hy hz h1 h2 h3).symm
theorem of_pnN (hS:(tyS n d).isSome=true)(hx:rtB (rSt n d) x=true)(hy:rtB (rSt n d) y=true)(hz:rtB (rSt n d) (lpF x 1 y)=true)(h1:0<sP x)(h2 : ¬ 0<sP y)(h3 : ¬ 0<sP (lpF x 1 y)) :
    IntKind.i64.wrap ((IntKind.i64.wrap (hn n d (lpF x 1 y)*nF n d (ngF (lpF x 1 y)) x)).tdiv (hn n d y))=nF n d x y:=by
  rw[(wq (hn_bd hS hz) (nF_bd hS (rt_ng hS hz) hx) (hn_bd hS hy).1).1,ng_of' hS hx hy hz]
  rw[lp1 hS hx hy] at hz h3 ⊢
  exact(nF_pnN hS hx hy hz h1 h2 h3).symm
theorem sP_lp (hS:(tyS n d).isSome=true)(hx:rtB (rSt n d) x=true)(hy:rtB (rSt n d) y=true):sP (lpF x 1 y)=sP x+sP y:=by rw[lp1 hS hx hy,sP_add hS hx hy]
theorem sP_ne (hS:(tyS n d).isSome=true)(hx:rtB (rSt n d) x=true)(h : ¬ 0<sP x):sP x<0:=(rt_neg hS hx h).2
theorem m_nn (hS:(tyS n d).isSome=true)(hx:rtB (rSt n d) x=true)(hy:rtB (rSt n d) y=true)(h1 : ¬ 0<sP x)(h2 : ¬ 0<sP y){f:Nat}(hm:cnM x y<f+1):cnM (mnF x) (mnF y)<f:=by
  have:=cnM_nn (sP_ne hS hx h1) (sP_ne hS hy h2)
  omega
theorem m_np (hS:(tyS n d).isSome=true)(hx:rtB (rSt n d) x=true)(h1 : ¬ 0<sP x)(h2:0<sP y){f:Nat}(hm:cnM x y<f+1):cnM y x<f:=by
  have:=cnM_np (sP_ne hS hx h1) h2
  omega
theorem m_pnP (hS:(tyS n d).isSome=true)(hx:rtB (rSt n d) x=true)(hy:rtB (rSt n d) y=true)(h1:0<sP x)(h2 : ¬ 0<sP y)(h3:0<sP (lpF x 1 y)){f:Nat}(hm:cnM x y<f+1):cnM y (mnF (lpF x 1 y))<f:=by
  have:=cnM_pnP h1 (sP_ne hS hy h2) (sP_lp hS hx hy) h3
  omega
theorem m_pnN (hS:(tyS n d).isSome=true)(hx:rtB (rSt n d) x=true)(hy:rtB (rSt n d) y=true)(hz:rtB (rSt n d) (lpF x 1 y)=true)(h1:0<sP x)(h2 : ¬ 0<sP y)(h3 : ¬ 0<sP (lpF x 1 y)){f:Nat}(hm:cnM x y<f+1):cnM (mnF (lpF x 1 y)) x<f:=by
  have:=cnM_pnN h1 (sP_ne hS hy h2) (sP_lp hS hx hy) (sP_ne hS hz h3)
  omega
theorem mi_nn (hS:(tyS n d).isSome=true)(hx:rtB (rSt n d) x=true)(hy:rtB (rSt n d) y=true)(h1 : ¬ 0<sP x)(h2 : ¬ 0<sP y){f:Nat}(hm:cnM x y<f+1):cnM (ngF x) (ngF y)<f:=by
  rw[ng_of hS hx,ng_of hS hy]
  exact m_nn hS hx hy h1 h2 hm
theorem mi_pnP (hS:(tyS n d).isSome=true)(hx:rtB (rSt n d) x=true)(hy:rtB (rSt n d) y=true)(hz:rtB (rSt n d) (lpF x 1 y)=true)(h1:0<sP x)(h2 : ¬ 0<sP y)(h3:0<sP (lpF x 1 y)){f:Nat}(hm:cnM x y<f+1):cnM y (ngF (lpF x 1 y))<f:=by
  rw[ng_of hS hz]
  exact m_pnP hS hx hy h1 h2 h3 hm
theorem mi_pnN (hS:(tyS n d).isSome=true)(hx:rtB (rSt n d) x=true)(hy:rtB (rSt n d) y=true)(hz:rtB (rSt n d) (lpF x 1 y)=true)(h1:0<sP x)(h2 : ¬ 0<sP y)(h3 : ¬ 0<sP (lpF x 1 y)){f:Nat}(hm:cnM x y<f+1):cnM (ngF (lpF x 1 y)) x<f:=by
  rw[ng_of hS hz]
  exact m_pnN hS hx hy hz h1 h2 h3 hm
theorem cN_neg (hS:(tyS n d).isSome=true)(hx:rtB (rSt n d) x=true)(h:sumW x<0):(alu (ngF x) (hfK n d)).getD 0=hn n d x:=by
  rw[sw_of hS hx] at h
  rw[ng_of hS hx,hfK_get hS (rt_neg hS hx (by omega)).1,hn_mn]
theorem cN_pos (hS:(tyS n d).isSome=true)(hx:rtB (rSt n d) x=true)(h : ¬ sumW x<0):(alu x (hfK n d)).getD 0=hn n d x:=by
  rw[sw_of hS hx] at h
  exact hfK_get hS (rt_pos hS hx (by have:=rt_nz hS hx;omega))
variable {z:List Int}{k:Nat}
theorem fs_lp (hS:(tyS n d).isSome=true)(hz:z∈rSt n d)(hk:k<(rSt n d).length):lpF z (-1) ((rSt n d).getD k [])=lA z (-1) ((rSt n d).getD k []):=lp_of hS (.inr rfl) (rt_in hz) (rt_in (by
  have e:(rSt n d).getD k []=(rSt n d)[k]:=by simp[List.getD,hk]
  rw[e]
  exact List.getElem_mem hk))
theorem fs_S (hS:(tyS n d).isSome=true)(hz:z∈rSt n d)(hk:k<(rSt n d).length):fdS n (rKvs n d) (lpF z (-1) ((rSt n d).getD k []))=(rSt n d).contains (lA z (-1) ((rSt n d).getD k [])):=by
  have l1:=(root_get hS hz).1
  have hlo:=(rtOk hS).lo
  rw[fdS,(rtOk hS).look,plO_some,lpF_len,decide_eq_true (by omega),Bool.true_and,fs_lp hS hz hk]
theorem fs_B (hS:(tyS n d).isSome=true)(hz:z∈rSt n d)(hk:k<(rSt n d).length)(h:fdB n (rKvs n d) (lpF z (-1) ((rSt n d).getD k []))=false):(rSt n d).contains (lA z (-1) ((rSt n d).getD k []))=false:=by
  rw[← fs_S hS hz hk]
  unfold fdB at h
  unfold fdS
  cases e:decide (((lpF z (-1) ((rSt n d).getD k [])).length:Int)=n) with
  | false=>rfl
  | true =>
    rw[e,Bool.true_and,Bool.or_eq_false_iff] at h
    rw[h.1]
    rfl
theorem fst_w (hS:(tyS n d).isSome=true)(hz:z∈rSt n d)(hk:k<(rSt n d).length)(h0:∀ j,j<k→(rSt n d).contains (lA z (-1) ((rSt n d).getD j []))=false)(h1:(rSt n d).contains (lA z (-1) ((rSt n d).getD k []))=true) :
    ∃ p,Fst n d z k p ((rSt n d).getD k []) (lpF z (-1) ((rSt n d).getD k [])):=by
  rw[fs_lp hS hz hk]
  exact fst_at hS hz hk h0 h1
theorem fs_all (hS:(tyS n d).isSome=true)(hx:x∈rSt n d)(hy:y∈rSt n d)(hz:lpF x 1 y∈rSt n d)(h:∀ j,j<(rSt n d).length→(rSt n d).contains (lA (lpF x 1 y) (-1) ((rSt n d).getD j []))=false):False:=by
  obtain⟨j,hj,rfl⟩:=List.mem_iff_getElem.1 hx
  have e:(rSt n d).getD j []=(rSt n d)[j]:=by simp[List.getD,hj]
  have h1:=h j hj
  have l1:=(root_get hS hx).1
  have l2:=(root_get hS hy).1
  rw[e,lp1 hS (rt_in hx) (rt_in hy),lA_back (by omega),contains_mem.2 hy] at h1
  cases h1
theorem pp_in (hS:(tyS n d).isSome=true)(hx:rtB (rSt n d) x=true)(hy:rtB (rSt n d) y=true)(hz:rtB (rSt n d) (lpF x 1 y)=true)(h1:0<sP x)(h2:0<sP y):x∈rSt n d∧y∈rSt n d∧lpF x 1 y∈rSt n d :=
  ⟨rt_pos hS hx h1,rt_pos hS hy h2,rt_pos hS hz (by rw[sP_lp hS hx hy];omega)⟩
theorem pp_m (h1:0<sP x)(h2:0<sP y){f:Nat}(hm:cnM x y<f+1):4*(sP x+sP y).natAbs≤f:=by
  rw[cnM_pp h1 h2] at hm
  omega
variable {p:Nat}{r s:List Int}
theorem fs_m (hS:(tyS n d).isSome=true)(hx:x∈rSt n d)(hy:y∈rSt n d)(hF:Fst n d (lpF x 1 y) k p r s){f:Nat}(hm:4*(sP x+sP y).natAbs≤f):cnM y (mnF r)<f∧cnM x (mnF s)<f∧cnM (mnF r) x<f∧cnM y (mnF s)<f :=
  cnM_in (Int.lt_of_lt_of_le (by omega) (sP_root hS hx)) (Int.lt_of_lt_of_le (by omega) (sP_root hS hy)) (Int.lt_of_lt_of_le (by omega) (sP_root hS hF.hr)) (Int.lt_of_lt_of_le (by omega) (sP_root hS hF.hs)) (by rw[hF.sum,sP_lp hS (rt_in hx) (rt_in hy)]) hm
theorem fs_mi (hS:(tyS n d).isSome=true)(hx:x∈rSt n d)(hy:y∈rSt n d)(hF:Fst n d (lpF x 1 y) k p r s){f:Nat}(hm:4*(sP x+sP y).natAbs≤f):cnM y (ngF r)<f∧cnM x (ngF s)<f∧cnM (ngF r) x<f∧cnM y (ngF s)<f:=by
  rw[ng_of hS (rt_in hF.hr),ng_of hS (rt_in hF.hs)]
  exact fs_m hS hx hy hF hm
theorem fs_1 (hS:(tyS n d).isSome=true)(hx:x∈rSt n d)(hy:y∈rSt n d)(hF:Fst n d (lpF x 1 y) k p r s)(h:samB x r=true):(p:Int)+1=nF n d x y:=by
  rw[samB_eq] at h
  rw[hF.at_ hx hy (lp1 hS (rt_in hx) (rt_in hy)).symm,if_pos (of_decide_eq_true h).symm]
theorem fs_2 (hS:(tyS n d).isSome=true)(hx:x∈rSt n d)(hy:y∈rSt n d)(hF:Fst n d (lpF x 1 y) k p r s)(h:samB x r=false)(h2:samB y r=true):IntKind.i64.wrap (0 - ((p:Int)+1))=nF n d x y:=by
  rw[samB_eq] at h h2
  have:=hF.hp
  rw[hF.at_ hx hy (lp1 hS (rt_in hx) (rt_in hy)).symm,if_neg (fun e=>of_decide_eq_false h e.symm),if_pos (of_decide_eq_true h2).symm,w0 (by omega)]
theorem fs_un (hS:(tyS n d).isSome=true)(hx:x∈rSt n d)(hy:y∈rSt n d)(hF:Fst n d (lpF x 1 y) k p r s)(h:samB x r=false)(h2:samB y r=false):nF n d x y=(hn n d (lpF x 1 y)*(shF n d y (mnF r) x (mnF s)+shF n d (mnF r) x y (mnF s))).tdiv (6*((p:Int)+1)):=by
  rw[samB_eq] at h h2
  rw[hF.at_ hx hy (lp1 hS (rt_in hx) (rt_in hy)).symm,if_neg (fun e=>of_decide_eq_false h e.symm),if_neg (fun e=>of_decide_eq_false h2 e.symm)]
theorem fs_3 (hS:(tyS n d).isSome=true)(hx:x∈rSt n d)(hy:y∈rSt n d)(hz:lpF x 1 y∈rSt n d)(hF:Fst n d (lpF x 1 y) k p r s)(h:samB x r=false)(h2:samB y r=false) :
    IntKind.i64.wrap ((IntKind.i64.wrap (hn n d (lpF x 1 y)*IntKind.i64.wrap (shF n d y (ngF r) x (ngF s)+shF n d (ngF r) x y (ngF s)))).tdiv (IntKind.i64.wrap (6*((p:Int)+1))))=nF n d x y:=by
  have hp:=hF.hp
  have b1:=shF_bd hS (rt_in hy) (rt_mn hF.hr) (rt_in hx) (rt_mn hF.hs)
  have b2:=shF_bd hS (rt_mn hF.hr) (rt_in hx) (rt_in hy) (rt_mn hF.hs)
  have bz:=hn_bd hS (rt_in hz)
  rw[fs_un hS hx hy hF h h2,ng_of hS (rt_in hF.hr),ng_of hS (rt_in hF.hs),wrap_in (x:=shF n d y (mnF r) x (mnF s)+_) (by omega) (by omega)]
  have bu : -1728≤shF n d y (mnF r) x (mnF s)+shF n d (mnF r) x y (mnF s)∧shF n d y (mnF r) x (mnF s)+shF n d (mnF r) x y (mnF s)≤1728:=by omega
  generalize shF n d y (mnF r) x (mnF s)+shF n d (mnF r) x y (mnF s)=u at *
  have h3:=mul_abs (a:=hn n d (lpF x 1 y)) (b:=u) (A:=3) (B:=1728) (by omega) (by omega)
  have h4:=tdiv_abs (a:=hn n d (lpF x 1 y)*u) (b:=6*((p:Int)+1)) (by omega) (A:=5184) (by omega)
  rw[wrap_in (x:=hn n d (lpF x 1 y)*u) (by omega) (by omega),wrap_in (x:=6*((p:Int)+1)) (by omega) (by omega),wrap_in (by omega) (by omega)]
theorem sh_no (hS:(tyS n d).isSome=true){a b c e:List Int}(ha:rtB (rSt n d) a=true)(hb:rtB (rSt n d) b=true)(h:rtB (rSt n d) (lpF a 1 b)=false):0=shF n d a b c e:=by
  rw[lp1 hS ha hb] at h
  rw[shF,h]
  rfl
theorem sh_yes (hS:(tyS n d).isSome=true){a b c e:List Int}(ha:rtB (rSt n d) a=true)(hb:rtB (rSt n d) b=true)(hc:rtB (rSt n d) c=true)(he:rtB (rSt n d) e=true)(h:rtB (rSt n d) (lpF a 1 b)=true) :
    IntKind.i64.wrap ((IntKind.i64.wrap (IntKind.i64.wrap (6*nF n d a b)*nF n d c e)).tdiv (hn n d (lpF a 1 b)))=shF n d a b c e:=by
  have h1:=nF_bd hS ha hb
  have h2:=nF_bd hS hc he
  have h3:=mul_abs (a:=6*nF n d a b) (b:=nF n d c e) (A:=72) (B:=12) (by omega) (by omega)
  have h4:=tdiv_abs (a:=6*nF n d a b*nF n d c e) (hn_bd hS h).1 (A:=864) (by omega)
  rw[wrap_in (x:=6*nF n d a b) (by omega) (by omega),wrap_in (x:=6*nF n d a b*nF n d c e) (by omega) (by omega),wrap_in (by omega) (by omega)]
  rw[lp1 hS ha hb] at h ⊢
  rw[shF,if_pos h]
theorem rt_mn2 (hx:rtB (rSt n d) x=true):rtB (rSt n d) (mnF x)=true:=by rw[rtB_mn];exact hx
end
end Go.Proofs.YtbmnnbglipkidaaGreatDoor
