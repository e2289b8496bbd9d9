/-
  Constants of roots: what each return of the two recursions owes, and what each call asks. No program is spoken of but what lies in maps and slices.
-/
import Derived.Test.YtbmnnbglipkidaaGreatDoorZ25
namespace Go.Proofs.YtbmnnbglipkidaaGreatDoor
set_option linter.unusedVariables false
set_option linter.unusedSimpArgs false
theorem getR_mem {L:List (List Int)}{k:Nat}(hk:k<L.length):L.getD k []∈L:=by
  have e:L.getD k []=L[k]:=by simp[List.getD,hk]
  rw[e]
  exact List.getElem_mem hk
def memA (g:Nat)(n:Int)(d:List Int):Asn:=hdn (fun kv:List ((List Int × List Int) × Int)=>KpOk n d kv) fun kv=>[mapA keyP valI g kv]
def memS (eB eI:Nat)(vd vv:Value)(n:Int)(d:List Int):Asn:=hdn (fun p:List Bool × List Int=>MmOk n d p.1 p.2) fun p=>[bls eB vd p.1,ints eI vv p.2]
section
variable {P:Program}{n:Int}{d:List Int}{W:World}{own:List Asn}{env:List (Nat × Value)}{m g:Nat}{Q:Exit→Act→World→Prop}{kv:List ((List Int × List Int) × Int)}
theorem GC.memOpen {c:Code}(h:∀ kv,KpOk n d kv→GC P c Q m env W (mapA keyP valI g kv::own)):GC P c Q m env W (memA g n d::own):=GC.hdnOpen h
theorem GC.memClose {c:Code}(hk:KpOk n d kv)(h:GC P c Q m env W (memA g n d::own)):GC P c Q m env W (mapA keyP valI g kv::own):=GC.hdnClose (L:=fun kv=>[mapA keyP valI g kv]) kv hk h
theorem GE.memClose {e:Exit}(hk:KpOk n d kv)(h:GE e Q m env W (memA g n d::own)):GE e Q m env W (mapA keyP valI g kv::own):=GE.hdnClose (L:=fun kv=>[mapA keyP valI g kv]) kv hk h
variable {eB eI:Nat}{vd vv:Value}{ds:List Bool}{vs:List Int}
theorem GC.mesOpen {c:Code}(h:∀ ds vs,MmOk n d ds vs→GC P c Q m env W (bls eB vd ds::ints eI vv vs::own)):GC P c Q m env W (memS eB eI vd vv n d::own):=GC.hdnOpen fun j hj=>h j.1 j.2 hj
theorem GC.mesClose {c:Code}(hk:MmOk n d ds vs)(h:GC P c Q m env W (memS eB eI vd vv n d::own)):GC P c Q m env W (bls eB vd ds::ints eI vv vs::own):=GC.hdnClose (L:=fun p:List Bool × List Int=>[bls eB vd p.1,ints eI vv p.2]) (ds,vs) hk h
theorem G.mesOpen {ops:Array Oper}{rest:List Oper}(h:∀ ds vs,MmOk n d ds vs→G P ops Q rest m env W (bls eB vd ds::ints eI vv vs::own)):G P ops Q rest m env W (memS eB eI vd vv n d::own):=G.hdnOpen fun j hj=>h j.1 j.2 hj
theorem GE.mesClose {e:Exit}(hk:MmOk n d ds vs)(h:GE e Q m env W (memS eB eI vd vv n d::own)):GE e Q m env W (bls eB vd ds::ints eI vv vs::own):=GE.hdnClose (L:=fun p:List Bool × List Int=>[bls eB vd p.1,ints eI vv p.2]) (ds,vs) hk h
theorem Ent.mes {i:Nat}(h:own[i]?=some (memS eB eI vd vv n d)):Ent own fun w=>∃ cs,Sl w vv ((rSt n d).length*(rSt n d).length) 1 cs:=fun W w hs=>by
  obtain⟨j,hj,h2⟩:=(hs.perm (perm_front h)).hdnOpen
  have h3:=Ent.ints (i:=1) (own:=(fun p:List Bool × List Int=>[Proofs.YtbmnnbglipkidaaGreatDoor.bls eB vd p.1,Proofs.YtbmnnbglipkidaaGreatDoor.ints eI vv p.2]) j++own.eraseIdx i) rfl W w h2
  have h4:Sl w vv j.2.length 1 (j.2.map (Value.int .i64)):=h3
  rw[hj.2.1] at h4
  exact⟨_,h4⟩
theorem OD.indexAddrE {o:Oper}{t e sz bytes:Nat}{x y:Operand}{z v:Value}{k:Int}{l:Nat}(hop:o.op = .indexAddr t x y)(et:ET P t e sz bytes z)(hx:ev env x=some v)(hne:Ent own fun w=>∃ cs,Sl w v l sz cs)(hy:ev env y=some (.int .i64 k))(hk:0≤k∧k<l) :
    OD P o m env W own (elemPtr v sz k.toNat) own :=
  .of fun a w hf hs=>by
    obtain⟨cs,hsl⟩:=hne W w hs
    obtain⟨_,ao,cap,rfl,_,_,_,h4⟩:=hsl
    obtain⟨b,off,rfl,_,_⟩:=h4 (by omega)
    have hr:=run_index_slice et b off l cap k.toNat (by omega) w
    have hkk:((k.toNat:Nat):Int)=k:=by omega
    rw[hkk] at hr
    simp only[execOp,hop,hf.ev hx,hf.ev hy]
    refine run_val (hr.trans ?_)
    congr 1
    simp only[elemPtr,Addr.add]
    split <;> simp_all
end
section
variable {n:Int}{d:List Int}{x y:List Int}
theorem rt_64 (hS:(tyS n d).isSome=true)(hx:rtB (rSt n d) x=true):All64 x:=fun y hy=>by
  obtain⟨k,hk,rfl⟩:=List.mem_iff_getElem.1 hy
  have:=(rt_tens hS hx).2.1 k
  have e:x.getD k 0=x[k]:=by simp[List.getD,hk]
  rw[e] at this
  exact⟨by omega,by omega⟩
theorem rt_ng (hS:(tyS n d).isSome=true)(hx:rtB (rSt n d) x=true):rtB (rSt n d) (ngF x)=true:=by rw[ng_of hS hx,rtB_mn];exact hx
theorem lp1 (hS:(tyS n d).isSome=true)(hx:rtB (rSt n d) x=true)(hy:rtB (rSt n d) y=true):lpF x 1 y=lA x 1 y:=lp_of hS (.inl rfl) hx hy
theorem of_rt (hS:(tyS n d).isSome=true)(hx:rtB (rSt n d) x=true)(hy:rtB (rSt n d) y=true):fdB n (rKvs n d) (lpF x 1 y)=rtB (rSt n d) (lpF x 1 y):=((rtOk hS).any (lpF_all64 (rt_64 hS hx))).symm
theorem of_no (hS:(tyS n d).isSome=true)(hx:rtB (rSt n d) x=true)(hy:rtB (rSt n d) y=true)(h:rtB (rSt n d) (lpF x 1 y)=false):0=nF n d x y:=by
  rw[lp1 hS hx hy] at h
  exact(nF_no hS h).symm
theorem w0 {a:Int}(h : -1000≤a∧a≤1000):IntKind.i64.wrap (0 - a) = -a:=by
  rw[wrap_in (by omega) (by omega)]
  omega
theorem wq {h a g:Int}(hh:1≤h∧h≤3)(ha : -12≤a∧a≤12)(hg:1≤g):IntKind.i64.wrap ((IntKind.i64.wrap (h*a)).tdiv g)=(h*a).tdiv g ∧ -36≤(h*a).tdiv g∧(h*a).tdiv g≤36:=by
  have h1:=mul_abs (a:=h) (b:=a) (A:=3) (B:=12) (by omega) (by omega)
  have h2:=tdiv_abs (a:=h*a) hg (A:=36) (by omega)
  rw[wrap_in (x:=h*a) (by omega) (by omega),wrap_in (by omega) (by omega)]
  exact⟨rfl,h2⟩
theorem nF_sm (hS:(tyS n d).isSome=true)(hx:rtB (rSt n d) x=true)(hy:rtB (rSt n d) y=true) : -1000≤nF n d x y∧nF n d x y≤1000:=by
  have:=nF_bd hS hx hy
  omega
theorem ng_of' (hS:(tyS n d).isSome=true)(hx:rtB (rSt n d) x=true)(hy:rtB (rSt n d) y=true)(hz:rtB (rSt n d) (lpF x 1 y)=true):ngF (lpF x 1 y)=mnF (lA x 1 y):=by rw[ng_of hS hz,lp1 hS hx hy]
theorem of_nn (hS:(tyS n d).isSome=true)(hx:rtB (rSt n d) x=true)(hy:rtB (rSt n d) y=true)(h1 : ¬ 0<sP x)(h2 : ¬ 0<sP y):IntKind.i64.wrap (0 - nF n d (ngF x) (ngF y))=nF n d x y:=by
  rw[w0 (nF_sm hS (rt_ng hS hx) (rt_ng hS hy)),ng_of hS hx,ng_of hS hy,nF_nn hS hx hy h1 h2]
theorem of_np (hS:(tyS n d).isSome=true)(hx:rtB (rSt n d) x=true)(hy:rtB (rSt n d) y=true)(h1 : ¬ 0<sP x)(h2:0<sP y):IntKind.i64.wrap (0 - nF n d y x)=nF n d x y:=by
  rw[w0 (nF_sm hS hy hx),nF_np hS hx hy h1 h2]
theorem of_pnP (hS:(tyS n d).isSome=true)(hx:rtB (rSt n d) x=true)(hy:rtB (rSt n d) y=true)(hz:rtB (rSt n d) (lpF x 1 y)=true)(h1:0<sP x)(h2 : ¬ 0<sP y)(h3:0<sP (lpF x 1 y)) :
    IntKind.i64.wrap ((IntKind.i64.wrap (hn n d (lpF x 1 y)*nF n d y (ngF (lpF x 1 y)))).tdiv (hn n d x))=nF n d x y:=by
  rw[(wq (hn_bd hS hz) (nF_bd hS hy (rt_ng hS hz)) (hn_bd hS hx).1).1,ng_of' hS hx hy hz]
  rw[lp1 hS hx hy] at hz h3 ⊢
  exact(nF_pnP hS hx hy hz h1 h2 h3).symm
theorem of_pnN (hS:(tyS n d).isSome=true)(hx:rtB (rSt n d) x=true)(hy:rtB (rSt n d) y=true)(hz:rtB (rSt n d) (lpF x 1 y)=true)(h1:0<sP x)(h2 : ¬ 0<sP y)(h3 : ¬ 0<sP (lpF x 1 y)) :
    IntKind.i64.wrap ((IntKind.i64.wrap (hn n d (lpF x 1 y)*nF n d (ngF (lpF x 1 y)) x)).tdiv (hn n d y))=nF n d x y:=by
  rw[(wq (hn_bd hS hz) (nF_bd hS (rt_ng hS hz) hx) (hn_bd hS hy).1).1,ng_of' hS hx hy hz]
  rw[lp1 hS hx hy] at hz h3 ⊢
  exact(nF_pnN hS hx hy hz h1 h2 h3).symm
theorem sf_nn (hS:(tyS n d).isSome=true)(hx:rtB (rSt n d) x=true)(hy:rtB (rSt n d) y=true)(h1 : ¬ 0<sP x)(h2 : ¬ 0<sP y):IntKind.i64.wrap (0 - nF n d (mnF x) (mnF y))=nF n d x y:=by
  rw[w0 (nF_sm hS (by rw[rtB_mn];exact hx) (by rw[rtB_mn];exact hy)),nF_nn hS hx hy h1 h2]
theorem sf_pnP (hS:(tyS n d).isSome=true)(hx:rtB (rSt n d) x=true)(hy:rtB (rSt n d) y=true)(hz:rtB (rSt n d) (lpF x 1 y)=true)(h1:0<sP x)(h2 : ¬ 0<sP y)(h3:0<sP (lpF x 1 y)) :
    IntKind.i64.wrap (0 - IntKind.i64.wrap ((IntKind.i64.wrap (hfF n d (lpF x 1 y)*nF n d (mnF y) (lpF x 1 y))).tdiv (hfF n d x)))=nF n d x y:=by
  have e:=wq (hn_bd hS hz) (nF_bd hS (x:=mnF y) (by rw[rtB_mn];exact hy) hz) (hn_bd hS hx).1
  rw[hf_of hS hz,hf_of hS hx,e.1,w0 (by omega)]
  rw[lp1 hS hx hy] at hz h3 ⊢
  exact(nF_pnQ hS hx hy hz h1 h2 h3).symm
theorem sf_pnN (hS:(tyS n d).isSome=true)(hx:rtB (rSt n d) x=true)(hy:rtB (rSt n d) y=true)(hz:rtB (rSt n d) (lpF x 1 y)=true)(h1:0<sP x)(h2 : ¬ 0<sP y)(h3 : ¬ 0<sP (lpF x 1 y)) :
    IntKind.i64.wrap ((IntKind.i64.wrap (hfF n d (lpF x 1 y)*nF n d (mnF (lpF x 1 y)) x)).tdiv (hfF n d y))=nF n d x y:=by
  rw[hf_of hS hz,hf_of hS hy,(wq (hn_bd hS hz) (nF_bd hS (x:=mnF (lpF x 1 y)) (by rw[rtB_mn];exact hz) hx) (hn_bd hS hy).1).1]
  rw[lp1 hS hx hy] at hz h3 ⊢
  exact(nF_pnN hS hx hy hz h1 h2 h3).symm
theorem sP_lp (hS:(tyS n d).isSome=true)(hx:rtB (rSt n d) x=true)(hy:rtB (rSt n d) y=true):sP (lpF x 1 y)=sP x+sP y:=by rw[lp1 hS hx hy,sP_add hS hx hy]
theorem sP_ne (hS:(tyS n d).isSome=true)(hx:rtB (rSt n d) x=true)(h : ¬ 0<sP x):sP x<0:=(rt_neg hS hx h).2
theorem m_nn (hS:(tyS n d).isSome=true)(hx:rtB (rSt n d) x=true)(hy:rtB (rSt n d) y=true)(h1 : ¬ 0<sP x)(h2 : ¬ 0<sP y){f:Nat}(hm:cnM x y<f+1):cnM (mnF x) (mnF y)<f:=by
  have:=cnM_nn (sP_ne hS hx h1) (sP_ne hS hy h2)
  omega
theorem m_np (hS:(tyS n d).isSome=true)(hx:rtB (rSt n d) x=true)(h1 : ¬ 0<sP x)(h2:0<sP y){f:Nat}(hm:cnM x y<f+1):cnM y x<f:=by
  have:=cnM_np (sP_ne hS hx h1) h2
  omega
theorem m_pnP (hS:(tyS n d).isSome=true)(hx:rtB (rSt n d) x=true)(hy:rtB (rSt n d) y=true)(h1:0<sP x)(h2 : ¬ 0<sP y)(h3:0<sP (lpF x 1 y)){f:Nat}(hm:cnM x y<f+1):cnM y (mnF (lpF x 1 y))<f:=by
  have:=cnM_pnP h1 (sP_ne hS hy h2) (sP_lp hS hx hy) h3
  omega
theorem m_pnQ (hS:(tyS n d).isSome=true)(hx:rtB (rSt n d) x=true)(hy:rtB (rSt n d) y=true)(h1:0<sP x)(h2 : ¬ 0<sP y)(h3:0<sP (lpF x 1 y)){f:Nat}(hm:cnM x y<f+1):cnM (mnF y) (lpF x 1 y)<f:=by
  have:=cnM_pnQ h1 (sP_ne hS hy h2) (sP_lp hS hx hy) h3
  omega
theorem m_pnN (hS:(tyS n d).isSome=true)(hx:rtB (rSt n d) x=true)(hy:rtB (rSt n d) y=true)(hz:rtB (rSt n d) (lpF x 1 y)=true)(h1:0<sP x)(h2 : ¬ 0<sP y)(h3 : ¬ 0<sP (lpF x 1 y)){f:Nat}(hm:cnM x y<f+1):cnM (mnF (lpF x 1 y)) x<f:=by
  have:=cnM_pnN h1 (sP_ne hS hy h2) (sP_lp hS hx hy) (sP_ne hS hz h3)
  omega
theorem mi_nn (hS:(tyS n d).isSome=true)(hx:rtB (rSt n d) x=true)(hy:rtB (rSt n d) y=true)(h1 : ¬ 0<sP x)(h2 : ¬ 0<sP y){f:Nat}(hm:cnM x y<f+1):cnM (ngF x) (ngF y)<f:=by
  rw[ng_of hS hx,ng_of hS hy]
  exact m_nn hS hx hy h1 h2 hm
theorem mi_pnP (hS:(tyS n d).isSome=true)(hx:rtB (rSt n d) x=true)(hy:rtB (rSt n d) y=true)(hz:rtB (rSt n d) (lpF x 1 y)=true)(h1:0<sP x)(h2 : ¬ 0<sP y)(h3:0<sP (lpF x 1 y)){f:Nat}(hm:cnM x y<f+1):cnM y (ngF (lpF x 1 y))<f:=by
  rw[ng_of hS hz]
  exact m_pnP hS hx hy h1 h2 h3 hm
theorem mi_pnN (hS:(tyS n d).isSome=true)(hx:rtB (rSt n d) x=true)(hy:rtB (rSt n d) y=true)(hz:rtB (rSt n d) (lpF x 1 y)=true)(h1:0<sP x)(h2 : ¬ 0<sP y)(h3 : ¬ 0<sP (lpF x 1 y)){f:Nat}(hm:cnM x y<f+1):cnM (ngF (lpF x 1 y)) x<f:=by
  rw[ng_of hS hz]
  exact m_pnN hS hx hy hz h1 h2 h3 hm
theorem cN_neg (hS:(tyS n d).isSome=true)(hx:rtB (rSt n d) x=true)(h:sumW x<0):(alu (ngF x) (hfK n d)).getD 0=hn n d x:=by
  rw[sw_of hS hx] at h
  rw[ng_of hS hx,hfK_get hS (rt_neg hS hx (by omega)).1,hn_mn]
theorem cN_pos (hS:(tyS n d).isSome=true)(hx:rtB (rSt n d) x=true)(h : ¬ sumW x<0):(alu x (hfK n d)).getD 0=hn n d x:=by
  rw[sw_of hS hx] at h
  exact hfK_get hS (rt_pos hS hx (by have:=rt_nz hS hx;omega))
variable {z:List Int}{k:Nat}
theorem fs_lp (hS:(tyS n d).isSome=true)(hz:z∈rSt n d)(hk:k<(rSt n d).length):lpF z (-1) ((rSt n d).getD k [])=lA z (-1) ((rSt n d).getD k []):=lp_of hS (.inr rfl) (rt_in hz) (rt_in (by
  have e:(rSt n d).getD k []=(rSt n d)[k]:=by simp[List.getD,hk]
  rw[e]
  exact List.getElem_mem hk))
theorem fs_S (hS:(tyS n d).isSome=true)(hz:z∈rSt n d)(hk:k<(rSt n d).length):fdS n (rKvs n d) (lpF z (-1) ((rSt n d).getD k []))=(rSt n d).contains (lA z (-1) ((rSt n d).getD k [])):=by
  have l1:=(root_get hS hz).1
  have hlo:=(rtOk hS).lo
  rw[fdS,(rtOk hS).look,plO_some,lpF_len,decide_eq_true (by omega),Bool.true_and,fs_lp hS hz hk]
theorem fs_B (hS:(tyS n d).isSome=true)(hz:z∈rSt n d)(hk:k<(rSt n d).length)(h:fdB n (rKvs n d) (lpF z (-1) ((rSt n d).getD k []))=false):(rSt n d).contains (lA z (-1) ((rSt n d).getD k []))=false:=by
  rw[← fs_S hS hz hk]
  unfold fdB at h
  unfold fdS
  cases e:decide (((lpF z (-1) ((rSt n d).getD k [])).length:Int)=n) with
  | false=>rfl
  | true =>
    rw[e,Bool.true_and,Bool.or_eq_false_iff] at h
    rw[h.1]
    rfl
theorem fst_w (hS:(tyS n d).isSome=true)(hz:z∈rSt n d)(hk:k<(rSt n d).length)(h0:∀ j,j<k→(rSt n d).contains (lA z (-1) ((rSt n d).getD j []))=false)(h1:(rSt n d).contains (lA z (-1) ((rSt n d).getD k []))=true) :
    ∃ p,Fst n d z k p ((rSt n d).getD k []) (lpF z (-1) ((rSt n d).getD k [])):=by
  rw[fs_lp hS hz hk]
  exact fst_at hS hz hk h0 h1
theorem fs_all (hS:(tyS n d).isSome=true)(hx:x∈rSt n d)(hy:y∈rSt n d)(hz:lpF x 1 y∈rSt n d)(h:∀ j,j<(rSt n d).length→(rSt n d).contains (lA (lpF x 1 y) (-1) ((rSt n d).getD j []))=false):False:=by
  obtain⟨j,hj,rfl⟩:=List.mem_iff_getElem.1 hx
  have e:(rSt n d).getD j []=(rSt n d)[j]:=by simp[List.getD,hj]
  have h1:=h j hj
  have l1:=(root_get hS hx).1
  have l2:=(root_get hS hy).1
  rw[e,lp1 hS (rt_in hx) (rt_in hy),lA_back (by omega),contains_mem.2 hy] at h1
  cases h1
theorem pp_in (hS:(tyS n d).isSome=true)(hx:rtB (rSt n d) x=true)(hy:rtB (rSt n d) y=true)(hz:rtB (rSt n d) (lpF x 1 y)=true)(h1:0<sP x)(h2:0<sP y):x∈rSt n d∧y∈rSt n d∧lpF x 1 y∈rSt n d :=
  ⟨rt_pos hS hx h1,rt_pos hS hy h2,rt_pos hS hz (by rw[sP_lp hS hx hy];omega)⟩
theorem pp_m (h1:0<sP x)(h2:0<sP y){f:Nat}(hm:cnM x y<f+1):4*(sP x+sP y).natAbs≤f:=by
  rw[cnM_pp h1 h2] at hm
  omega
variable {p:Nat}{r s:List Int}
theorem fs_m (hS:(tyS n d).isSome=true)(hx:x∈rSt n d)(hy:y∈rSt n d)(hF:Fst n d (lpF x 1 y) k p r s){f:Nat}(hm:4*(sP x+sP y).natAbs≤f):cnM y (mnF r)<f∧cnM x (mnF s)<f∧cnM (mnF r) x<f∧cnM y (mnF s)<f :=
  cnM_in (Int.lt_of_lt_of_le (by omega) (sP_root hS hx)) (Int.lt_of_lt_of_le (by omega) (sP_root hS hy)) (Int.lt_of_lt_of_le (by omega) (sP_root hS hF.hr)) (Int.lt_of_lt_of_le (by omega) (sP_root hS hF.hs)) (by rw[hF.sum,sP_lp hS (rt_in hx) (rt_in hy)]) hm
theorem fs_mi (hS:(tyS n d).isSome=true)(hx:x∈rSt n d)(hy:y∈rSt n d)(hF:Fst n d (lpF x 1 y) k p r s){f:Nat}(hm:4*(sP x+sP y).natAbs≤f):cnM y (ngF r)<f∧cnM x (ngF s)<f∧cnM (ngF r) x<f∧cnM y (ngF s)<f:=by
  rw[ng_of hS (rt_in hF.hr),ng_of hS (rt_in hF.hs)]
  exact fs_m hS hx hy hF hm
theorem fs_1 (hS:(tyS n d).isSome=true)(hx:x∈rSt n d)(hy:y∈rSt n d)(hF:Fst n d (lpF x 1 y) k p r s)(h:samB x r=true):(p:Int)+1=nF n d x y:=by
  rw[samB_eq] at h
  rw[hF.at_ hx hy (lp1 hS (rt_in hx) (rt_in hy)).symm,if_pos (of_decide_eq_true h).symm]
theorem fs_2 (hS:(tyS n d).isSome=true)(hx:x∈rSt n d)(hy:y∈rSt n d)(hF:Fst n d (lpF x 1 y) k p r s)(h:samB x r=false)(h2:samB y r=true):IntKind.i64.wrap (0 - ((p:Int)+1))=nF n d x y:=by
  rw[samB_eq] at h h2
  have:=hF.hp
  rw[hF.at_ hx hy (lp1 hS (rt_in hx) (rt_in hy)).symm,if_neg (fun e=>of_decide_eq_false h e.symm),if_pos (of_decide_eq_true h2).symm,w0 (by omega)]
theorem fs_un (hS:(tyS n d).isSome=true)(hx:x∈rSt n d)(hy:y∈rSt n d)(hF:Fst n d (lpF x 1 y) k p r s)(h:samB x r=false)(h2:samB y r=false):nF n d x y=(hn n d (lpF x 1 y)*(shF n d y (mnF r) x (mnF s)+shF n d (mnF r) x y (mnF s))).tdiv (6*((p:Int)+1)):=by
  rw[samB_eq] at h h2
  rw[hF.at_ hx hy (lp1 hS (rt_in hx) (rt_in hy)).symm,if_neg (fun e=>of_decide_eq_false h e.symm),if_neg (fun e=>of_decide_eq_false h2 e.symm)]
theorem fs_3 (hS:(tyS n d).isSome=true)(hx:x∈rSt n d)(hy:y∈rSt n d)(hz:lpF x 1 y∈rSt n d)(hF:Fst n d (lpF x 1 y) k p r s)(h:samB x r=false)(h2:samB y r=false) :
    IntKind.i64.wrap ((IntKind.i64.wrap (hn n d (lpF x 1 y)*IntKind.i64.wrap (shF n d y (ngF r) x (ngF s)+shF n d (ngF r) x y (ngF s)))).tdiv (IntKind.i64.wrap (6*((p:Int)+1))))=nF n d x y:=by
  have hp:=hF.hp
  have b1:=shF_bd hS (rt_in hy) (rt_mn hF.hr) (rt_in hx) (rt_mn hF.hs)
  have b2:=shF_bd hS (rt_mn hF.hr) (rt_in hx) (rt_in hy) (rt_mn hF.hs)
  have bz:=hn_bd hS (rt_in hz)
  rw[fs_un hS hx hy hF h h2,ng_of hS (rt_in hF.hr),ng_of hS (rt_in hF.hs),wrap_in (x:=shF n d y (mnF r) x (mnF s)+_) (by omega) (by omega)]
  have bu : -1728≤shF n d y (mnF r) x (mnF s)+shF n d (mnF r) x y (mnF s)∧shF n d y (mnF r) x (mnF s)+shF n d (mnF r) x y (mnF s)≤1728:=by omega
  generalize shF n d y (mnF r) x (mnF s)+shF n d (mnF r) x y (mnF s)=u at *
  have h3:=mul_abs (a:=hn n d (lpF x 1 y)) (b:=u) (A:=3) (B:=1728) (by omega) (by omega)
  have h4:=tdiv_abs (a:=hn n d (lpF x 1 y)*u) (b:=6*((p:Int)+1)) (by omega) (A:=5184) (by omega)
  rw[wrap_in (x:=hn n d (lpF x 1 y)*u) (by omega) (by omega),wrap_in (x:=6*((p:Int)+1)) (by omega) (by omega),wrap_in (by omega) (by omega)]
theorem sh_no (hS:(tyS n d).isSome=true){a b c e:List Int}(ha:rtB (rSt n d) a=true)(hb:rtB (rSt n d) b=true)(h:rtB (rSt n d) (lpF a 1 b)=false):0=shF n d a b c e:=by
  rw[lp1 hS ha hb] at h
  rw[shF,h]
  rfl
theorem sh_yes (hS:(tyS n d).isSome=true){a b c e:List Int}(ha:rtB (rSt n d) a=true)(hb:rtB (rSt n d) b=true)(hc:rtB (rSt n d) c=true)(he:rtB (rSt n d) e=true)(h:rtB (rSt n d) (lpF a 1 b)=true) :
    IntKind.i64.wrap ((IntKind.i64.wrap (IntKind.i64.wrap (6*nF n d a b)*nF n d c e)).tdiv (hn n d (lpF a 1 b)))=shF n d a b c e:=by
  have h1:=nF_bd hS ha hb
  have h2:=nF_bd hS hc he
  have h3:=mul_abs (a:=6*nF n d a b) (b:=nF n d c e) (A:=72) (B:=12) (by omega) (by omega)
  have h4:=tdiv_abs (a:=6*nF n d a b*nF n d c e) (hn_bd hS h).1 (A:=864) (by omega)
  rw[wrap_in (x:=6*nF n d a b) (by omega) (by omega),wrap_in (x:=6*nF n d a b*nF n d c e) (by omega) (by omega),wrap_in (by omega) (by omega)]
  rw[lp1 hS ha hb] at h ⊢
  rw[shF,if_pos h]
def nuF (n:Int)(d u:List Int):Int:=if rtB (rSt n d) u then hn n d u else 1
def abF (n:Int)(d u a b c e:List Int):Int:=if rtB (rSt n d) u then nF n d a b*nF n d c e else 0
theorem nu_bd (hS:(tyS n d).isSome=true)(u:List Int):nuF n d u=1∨nuF n d u=2∨nuF n d u=3:=by
  unfold nuF
  split
  · rename_i h
    have:=hn_bd hS h
    omega
  · exact .inl rfl
theorem ab_bd (hS:(tyS n d).isSome=true)(u:List Int){a b c e:List Int}(ha:rtB (rSt n d) a=true)(hb:rtB (rSt n d) b=true)(hc:rtB (rSt n d) c=true)(he:rtB (rSt n d) e=true) : -144≤abF n d u a b c e∧abF n d u a b c e≤144:=by
  unfold abF
  split
  · exact mul_abs (A:=12) (B:=12) (nF_bd hS ha hb) (nF_bd hS hc he)
  · omega
theorem sh_ab (hS:(tyS n d).isSome=true){a b c e:List Int}:shF n d a b c e=(6*abF n d (lA a 1 b) a b c e).tdiv (nuF n d (lA a 1 b)):=by
  unfold shF abF nuF
  cases rtB (rSt n d) (lA a 1 b) with
  | true=>simp[Int.mul_assoc]
  | false=>rfl
theorem fs_4 (hS:(tyS n d).isSome=true)(hx:x∈rSt n d)(hy:y∈rSt n d)(hz:lpF x 1 y∈rSt n d)(hF:Fst n d (lpF x 1 y) k p r s)(h:samB x r=false)(h2:samB y r=false){a b nu nv:Int}
    (ha:a=abF n d (lpF y (-1) r) y (mnF r) x (mnF s)) (hb:b=abF n d (lpF x (-1) r) (mnF r) x y (mnF s)) (hu:nu=nuF n d (lpF y (-1) r)) (hv:nv=nuF n d (lpF x (-1) r)) :
    IntKind.i64.wrap ((IntKind.i64.wrap (hfF n d (lpF x 1 y)*IntKind.i64.wrap (IntKind.i64.wrap (a*nv)+IntKind.i64.wrap (b*nu)))).tdiv (IntKind.i64.wrap (IntKind.i64.wrap (nu*nv)*((p:Int)+1))))=nF n d x y:=by
  have hp:=hF.hp
  have hr:=rt_in hF.hr
  have b1:=ab_bd hS (lpF y (-1) r) (rt_in hy) (rt_mn hF.hr) (rt_in hx) (rt_mn hF.hs)
  have b2:=ab_bd hS (lpF x (-1) r) (rt_mn hF.hr) (rt_in hx) (rt_in hy) (rt_mn hF.hs)
  have c1:=nu_bd hS (lpF y (-1) r)
  have c2:=nu_bd hS (lpF x (-1) r)
  have bz:=hn_bd hS (rt_in hz)
  have ey:lpF y (-1) r=lA y 1 (mnF r):=by rw[lp_of hS (.inr rfl) (rt_in hy) hr,lA_mn 1 (lenR_of hS (rt_in hy) hr)]
  have ex:lpF x (-1) r=lA (mnF r) 1 x:=by rw[lp_of hS (.inr rfl) (rt_in hx) hr,← lA_comm (lenR_of hS (rt_in hx) (rt_mn hF.hr)),lA_mn 1 (lenR_of hS (rt_in hx) hr)]
  rw[fs_un hS hx hy hF h h2,hf_of hS (rt_in hz),sh_ab hS,sh_ab hS,← ey,← ex,pos_two (a:=a) (b:=b) (nu:=nu) (nv:=nv) (by rw[hu];exact c1) (by rw[hv];exact c2) (by rw[ha,hu]) (by rw[hb,hv])]
  rw[← ha] at b1
  rw[← hb] at b2
  rw[← hu] at c1
  rw[← hv] at c2
  clear ha hb hu hv
  have e1:=mul_abs (a:=a) (b:=nv) (A:=144) (B:=3) (by omega) (by omega)
  have e2:=mul_abs (a:=b) (b:=nu) (A:=144) (B:=3) (by omega) (by omega)
  have e3:=mul_abs (a:=nu) (b:=nv) (A:=3) (B:=3) (by omega) (by omega)
  have e4:1≤nu*nv:=by rcases c1 with rfl | rfl | rfl <;> rcases c2 with rfl | rfl | rfl <;> decide
  rw[wrap_in (x:=a*nv) (by omega) (by omega),wrap_in (x:=b*nu) (by omega) (by omega),wrap_in (x:=nu*nv) (by omega) (by omega),wrap_in (x:=a*nv+b*nu) (by omega) (by omega)]
  have bu : -864≤a*nv+b*nu∧a*nv+b*nu≤864:=by omega
  generalize a*nv+b*nu=u at *
  generalize nu*nv=m at *
  have e5:=mul_abs (a:=hn n d (lpF x 1 y)) (b:=u) (A:=3) (B:=864) (by omega) (by omega)
  have e6:=mul_abs (a:=m) (b:=(p:Int)+1) (A:=9) (B:=4) (by omega) (by omega)
  have e7:1≤m*((p:Int)+1):=Int.mul_pos (by omega) (by omega)
  have e8:=tdiv_abs (a:=hn n d (lpF x 1 y)*u) e7 (A:=2592) (by omega)
  rw[wrap_in (x:=hn n d (lpF x 1 y)*u) (by omega) (by omega),wrap_in (x:=m*((p:Int)+1)) (by omega) (by omega),wrap_in (by omega) (by omega)]
theorem fs_P (hS:(tyS n d).isSome=true)(hz:z∈rSt n d)(hk:k<(rSt n d).length):decide (0≤plF (rSt n d) (lpF z (-1) ((rSt n d).getD k [])))=(rSt n d).contains (lA z (-1) ((rSt n d).getD k [])):=by rw[plF_ge,fs_lp hS hz hk]
theorem lp_th (hS:(tyS n d).isSome=true){u v:List Int}{q:Int}(hq:q=1∨q = -1)(hu:rtB (rSt n d) u=true)(hv:rtB (rSt n d) v=true):∀ j,j<(lpF u q v).length → -1000≤(lpF u q v).getD j 0∧(lpF u q v).getD j 0≤1000:=fun j _=>by
  have:=fif_lA (lenR_of hS hu hv) (k:=q) (by omega) (rt_tens hS hu).2.1 (rt_tens hS hv).2.1 j
  rw[lp_of hS hq hu hv]
  omega
theorem ps_t (hS:(tyS n d).isSome=true)(hx:rtB (rSt n d) x=true)(h:posL x=true):0<sP x:=of_decide_eq_true ((pos_of hS hx).symm.trans h)
theorem ps_f (hS:(tyS n d).isSome=true)(hx:rtB (rSt n d) x=true)(h:posL x=false) : ¬ 0<sP x:=of_decide_eq_false ((pos_of hS hx).symm.trans h)
theorem nu_yes (hS:(tyS n d).isSome=true){u:List Int}(h:rtB (rSt n d) u=true):hfF n d u=nuF n d u:=by rw[nuF,if_pos h,hf_of hS h]
theorem nu_no {u:List Int}(h:rtB (rSt n d) u=false):1=nuF n d u:=by rw[nuF,h];rfl
theorem ab_no {u a b c e:List Int}(h:rtB (rSt n d) u=false):0=abF n d u a b c e:=by rw[abF,h];rfl
theorem ab_yes (hS:(tyS n d).isSome=true){u a b c e:List Int}(ha:rtB (rSt n d) a=true)(hb:rtB (rSt n d) b=true)(hc:rtB (rSt n d) c=true)(he:rtB (rSt n d) e=true)(h:rtB (rSt n d) u=true):IntKind.i64.wrap (nF n d a b*nF n d c e)=abF n d u a b c e:=by
  have h3:=mul_abs (a:=nF n d a b) (b:=nF n d c e) (A:=12) (B:=12) (nF_bd hS ha hb) (nF_bd hS hc he)
  rw[abF,if_pos h,wrap_in (by omega) (by omega)]
theorem dv_ne (hS:(tyS n d).isSome=true){u v:List Int}{nu nv:Int}(hu:nu=nuF n d u)(hv:nv=nuF n d v)(hp:p≤3):IntKind.i64.wrap (IntKind.i64.wrap (nu*nv)*((p:Int)+1))≠0:=by
  have c1:=nu_bd hS u
  have c2:=nu_bd hS v
  rw[← hu] at c1
  rw[← hv] at c2
  have e3:=mul_abs (a:=nu) (b:=nv) (A:=3) (B:=3) (by omega) (by omega)
  have e4:1≤nu*nv:=by rcases c1 with rfl | rfl | rfl <;> rcases c2 with rfl | rfl | rfl <;> decide
  have e6:=mul_abs (a:=nu*nv) (b:=(p:Int)+1) (A:=9) (B:=4) (by omega) (by omega)
  have e7:1≤nu*nv*((p:Int)+1):=Int.mul_pos (by omega) (by omega)
  rw[wrap_in (x:=nu*nv) (by omega) (by omega),wrap_in (by omega) (by omega)]
  omega
theorem at_eq (hS:(tyS n d).isSome=true)(hx:x∈rSt n d)(hy:y∈rSt n d){q:Nat}(hq:q=(plF (rSt n d) x).toNat*(rSt n d).length+(plF (rSt n d) y).toNat):IntKind.i64.wrap (IntKind.i64.wrap (plF (rSt n d) x*((rSt n d).length:Int))+plF (rSt n d) y)=(q:Int)∧q<(rSt n d).length*(rSt n d).length:=by
  obtain⟨a1,_,a3⟩:=pl_root hx
  obtain⟨b1,_,b3⟩:=pl_root hy
  have hl:(rSt n d).length≤30:=by have h1:=(rtOk hS).slen;have h2:=(rtOk hS).few;omega
  have h3:=mul_abs (a:=plF (rSt n d) x) (b:=((rSt n d).length:Int)) (A:=30) (B:=30) (by omega) (by omega)
  have h4:((q:Nat):Int)=plF (rSt n d) x*((rSt n d).length:Int)+plF (rSt n d) y:=by
    rw[hq,Int.natCast_add,Int.natCast_mul,Int.toNat_of_nonneg a3,Int.toNat_of_nonneg b3]
  rw[wrap_in (x:=plF (rSt n d) x*((rSt n d).length:Int)) (by omega) (by omega),wrap_in (by omega) (by omega)]
  exact⟨h4.symm,by rw[hq];exact pair_lt a1 b1⟩
theorem MmOk.getq {ds:List Bool}{vs:List Int}(h:MmOk n d ds vs)(hx:x∈rSt n d)(hy:y∈rSt n d){q:Nat}(hq:q=(plF (rSt n d) x).toNat*(rSt n d).length+(plF (rSt n d) y).toNat)(hd:ds.getD q false=true):vs.getD q 0=nF n d x y:=by
  obtain⟨a1,a2,_⟩:=pl_root hx
  obtain⟨b1,b2,_⟩:=pl_root hy
  rw[hq] at hd ⊢
  have:=h.2.2 _ _ a1 b1 hd
  rwa [a2,b2] at this
theorem MmOk.setq {ds:List Bool}{vs:List Int}(h:MmOk n d ds vs)(hx:x∈rSt n d)(hy:y∈rSt n d){q:Nat}(hq:q=(plF (rSt n d) x).toNat*(rSt n d).length+(plF (rSt n d) y).toNat):MmOk n d (ds.set q true) (vs.set q (nF n d x y)):=by
  obtain⟨a1,a2,_⟩:=pl_root hx
  obtain⟨b1,b2,_⟩:=pl_root hy
  rw[hq]
  exact h.set a1 b1 (by rw[a2,b2])
theorem set_q {vs:List Int}{q:Nat}{v:Int}(h:q<vs.length):(vs.set q v).getD q 0=v:=by simp[List.getD,h]
theorem rt_mn2 (hx:rtB (rSt n d) x=true):rtB (rSt n d) (mnF x)=true:=by rw[rtB_mn];exact hx
end
end Go.Proofs.YtbmnnbglipkidaaGreatDoor
