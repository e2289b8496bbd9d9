/-
  Constants of roots: what each return of the two recursions owes, and what each call asks. No program is spoken of but what lies in maps and slices.
-/
import Derived.Test.YtbmnnbglipkidaaGreatDoorZ39
namespace Go.Proofs.YtbmnnbglipkidaaGreatDoor
set_option linter.unusedVariables false
set_option linter.unusedSimpArgs false
theorem Bh {L:List (List Int)}{k:Nat}(hk:k<L.length):L.getD k []∈L:=by
  have e:L.getD k []=L[k]:=by simp[List.getD,hk]
  rw[e]
  exact List.getElem_mem hk
def memA (g:Nat)(n:Int)(d:List Int):Asn:=hdn (fun kv:List ((List Int × List Int) × Int)=>Fx n d kv) fun kv=>[mapA keyP valI g kv]
def memS (eB eI:Nat)(vd vv:Value)(n:Int)(d:List Int):Asn:=hdn (fun p:List Bool × List Int=>Fv n d p.1 p.2) fun p=>[bls eB vd p.1,ints eI vv p.2]
section
variable {P:Program}{n:Int}{d:List Int}{W:World}{own:List Asn}{env:List (Nat × Value)}{m g:Nat}{Q:Exit→Act→World→Prop}{kv:List ((List Int × List Int) × Int)}
theorem GC.memOpen {c:Code}(h:∀ kv,Fx n d kv→GC P c Q m env W (mapA keyP valI g kv::own)):GC P c Q m env W (memA g n d::own):=GC.hdnOpen h
theorem GC.memClose {c:Code}(hk:Fx n d kv)(h:GC P c Q m env W (memA g n d::own)):GC P c Q m env W (mapA keyP valI g kv::own):=GC.hdnClose (L:=fun kv=>[mapA keyP valI g kv]) kv hk h
theorem GE.memClose {e:Exit}(hk:Fx n d kv)(h:GE e Q m env W (memA g n d::own)):GE e Q m env W (mapA keyP valI g kv::own):=GE.hdnClose (L:=fun kv=>[mapA keyP valI g kv]) kv hk h
variable {eB eI:Nat}{vd vv:Value}{ds:List Bool}{vs:List Int}
theorem GC.mesOpen {c:Code}(h:∀ ds vs,Fv n d ds vs→GC P c Q m env W (bls eB vd ds::ints eI vv vs::own)):GC P c Q m env W (memS eB eI vd vv n d::own):=GC.hdnOpen fun j hj=>h j.1 j.2 hj
theorem GC.mesClose {c:Code}(hk:Fv n d ds vs)(h:GC P c Q m env W (memS eB eI vd vv n d::own)):GC P c Q m env W (bls eB vd ds::ints eI vv vs::own):=GC.hdnClose (L:=fun p:List Bool × List Int=>[bls eB vd p.1,ints eI vv p.2]) (ds,vs) hk h
theorem G.mesOpen {ops:Array Oper}{rest:List Oper}(h:∀ ds vs,Fv n d ds vs→G P ops Q rest m env W (bls eB vd ds::ints eI vv vs::own)):G P ops Q rest m env W (memS eB eI vd vv n d::own):=G.hdnOpen fun j hj=>h j.1 j.2 hj
theorem GE.mesClose {e:Exit}(hk:Fv n d ds vs)(h:GE e Q m env W (memS eB eI vd vv n d::own)):GE e Q m env W (bls eB vd ds::ints eI vv vs::own):=GE.hdnClose (L:=fun p:List Bool × List Int=>[bls eB vd p.1,ints eI vv p.2]) (ds,vs) hk h
theorem Ent.mes {i:Nat}(h:own[i]?=some (memS eB eI vd vv n d)):Ent own fun w=>∃ cs,Sl w vv ((rSt n d).length*(rSt n d).length) 1 cs:=fun W w hs=>by
  obtain⟨j,hj,h2⟩:=(hs.perm (Bv h)).hdnOpen
  have h3:=Ent.ints (i:=1) (own:=(fun p:List Bool × List Int=>[Proofs.YtbmnnbglipkidaaGreatDoor.bls eB vd p.1,Proofs.YtbmnnbglipkidaaGreatDoor.ints eI vv p.2]) j++own.eraseIdx i) rfl W w h2
  have h4:Sl w vv j.2.length 1 (j.2.map (Value.int .i64)):=h3
  rw[hj.2.1] at h4
  exact⟨_,h4⟩
theorem OD.indexAddrE {o:Oper}{t e sz bytes:Nat}{x y:Operand}{z v:Value}{k:Int}{l:Nat}(hop:o.op = .indexAddr t x y)(et:ET P t e sz bytes z)(hx:ev env x=some v)(hne:Ent own fun w=>∃ cs,Sl w v l sz cs)(hy:ev env y=some (.int .i64 k))(hk:0≤k∧k<l) :
    OD P o m env W own (Aa v sz k.toNat) own :=
  .of fun a w hf hs=>by
    obtain⟨cs,hsl⟩:=hne W w hs
    obtain⟨_,ao,cap,rfl,_,_,_,h4⟩:=hsl
    obtain⟨b,off,rfl,_,_⟩:=h4 (by omega)
    have hr:=run_index_slice et b off l cap k.toNat (by omega) w
    have hkk:((k.toNat:Nat):Int)=k:=by omega
    rw[hkk] at hr
    simp only[execOp,hop,hf.ev hx,hf.ev hy]
    refine run_val (hr.trans ?_)
    congr 1
    simp only[Aa,Addr.add]
    split <;> simp_all
end
section
variable {n:Int}{d:List Int}{x y:List Int}
theorem DF (hS:(Ax n d).isSome=true)(hx:rtB (rSt n d) x=true):All64 x:=fun y hy=>by
  obtain⟨k,hk,rfl⟩:=List.mem_iff_getElem.1 hy
  have:=(Aw hS hx).2.1 k
  have e:x.getD k 0=x[k]:=by simp[List.getD,hk]
  rw[e] at this
  exact⟨by omega,by omega⟩
theorem EF (hS:(Ax n d).isSome=true)(hx:rtB (rSt n d) x=true):rtB (rSt n d) (Fe x)=true:=by rw[DV hS hx,B5];exact hx
theorem Mg (hS:(Ax n d).isSome=true)(hx:rtB (rSt n d) x=true)(hy:rtB (rSt n d) y=true):Af x 1 y=lA x 1 y:=NI hS (.inl rfl) hx hy
theorem Gq (hS:(Ax n d).isSome=true)(hx:rtB (rSt n d) x=true)(hy:rtB (rSt n d) y=true):EL n (A7 n d) (Af x 1 y)=rtB (rSt n d) (Af x 1 y):=((rtOk hS).any (Bn (DF hS hx))).symm
theorem of_no (hS:(Ax n d).isSome=true)(hx:rtB (rSt n d) x=true)(hy:rtB (rSt n d) y=true)(h:rtB (rSt n d) (Af x 1 y)=false):0=nF n d x y:=by
  rw[Mg hS hx hy] at h
  exact(L2 hS h).symm
theorem w0 {a:Int}(h : -1000≤a∧a≤1000):IntKind.i64.wrap (0 - a) = -a:=by
  rw[Aj (by omega) (by omega)]
  omega
theorem wq {h a g:Int}(hh:1≤h∧h≤3)(ha : -12≤a∧a≤12)(hg:1≤g):IntKind.i64.wrap ((IntKind.i64.wrap (h*a)).tdiv g)=(h*a).tdiv g ∧ -36≤(h*a).tdiv g∧(h*a).tdiv g≤36:=by
  have h1:=A9 (a:=h) (b:=a) (A:=3) (B:=12) (by omega) (by omega)
  have h2:=C4 (a:=h*a) hg (A:=36) (by omega)
  rw[Aj (x:=h*a) (by omega) (by omega),Aj (by omega) (by omega)]
  exact⟨rfl,h2⟩
theorem UY (hS:(Ax n d).isSome=true)(hx:rtB (rSt n d) x=true)(hy:rtB (rSt n d) y=true) : -1000≤nF n d x y∧nF n d x y≤1000:=by
  have:=DD hS hx hy
  omega
theorem UD (hS:(Ax n d).isSome=true)(hx:rtB (rSt n d) x=true)(hy:rtB (rSt n d) y=true)(hz:rtB (rSt n d) (Af x 1 y)=true):Fe (Af x 1 y)=Av (lA x 1 y):=by rw[DV hS hz,Mg hS hx hy]
theorem dB (hS:(Ax n d).isSome=true)(hx:rtB (rSt n d) x=true)(hy:rtB (rSt n d) y=true)(h1 : ¬ 0<sP x)(h2 : ¬ 0<sP y):IntKind.i64.wrap (0 - nF n d (Fe x) (Fe y))=nF n d x y:=by
  rw[w0 (UY hS (EF hS hx) (EF hS hy)),DV hS hx,DV hS hy,NM hS hx hy h1 h2]
theorem aq (hS:(Ax n d).isSome=true)(hx:rtB (rSt n d) x=true)(hy:rtB (rSt n d) y=true)(h1 : ¬ 0<sP x)(h2:0<sP y):IntKind.i64.wrap (0 - nF n d y x)=nF n d x y:=by
  rw[w0 (UY hS hy hx),Qt hS hx hy h1 h2]
theorem bS (hS:(Ax n d).isSome=true)(hx:rtB (rSt n d) x=true)(hy:rtB (rSt n d) y=true)(hz:rtB (rSt n d) (Af x 1 y)=true)(h1:0<sP x)(h2 : ¬ 0<sP y)(h3:0<sP (Af x 1 y)) :
    IntKind.i64.wrap ((IntKind.i64.wrap (hn n d (Af x 1 y)*nF n d y (Fe (Af x 1 y)))).tdiv (hn n d x))=nF n d x y:=by
  rw[(wq (Ce hS hz) (DD hS hy (EF hS hz)) (Ce hS hx).1).1,UD hS hx hy hz]
  rw[Mg hS hx hy] at hz h3 ⊢
  exact(bF hS hx hy hz h1 h2 h3).symm
theorem c7 (hS:(Ax n d).isSome=true)(hx:rtB (rSt n d) x=true)(hy:rtB (rSt n d) y=true)(hz:rtB (rSt n d) (Af x 1 y)=true)(h1:0<sP x)(h2 : ¬ 0<sP y)(h3 : ¬ 0<sP (Af x 1 y)) :
    IntKind.i64.wrap ((IntKind.i64.wrap (hn n d (Af x 1 y)*nF n d (Fe (Af x 1 y)) x)).tdiv (hn n d y))=nF n d x y:=by
  rw[(wq (Ce hS hz) (DD hS (EF hS hz) hx) (Ce hS hy).1).1,UD hS hx hy hz]
  rw[Mg hS hx hy] at hz h3 ⊢
  exact(Ur hS hx hy hz h1 h2 h3).symm
theorem ej (hS:(Ax n d).isSome=true)(hx:rtB (rSt n d) x=true)(hy:rtB (rSt n d) y=true)(h1 : ¬ 0<sP x)(h2 : ¬ 0<sP y):IntKind.i64.wrap (0 - nF n d (Av x) (Av y))=nF n d x y:=by
  rw[w0 (UY hS (by rw[B5];exact hx) (by rw[B5];exact hy)),NM hS hx hy h1 h2]
theorem ck (hS:(Ax n d).isSome=true)(hx:rtB (rSt n d) x=true)(hy:rtB (rSt n d) y=true)(hz:rtB (rSt n d) (Af x 1 y)=true)(h1:0<sP x)(h2 : ¬ 0<sP y)(h3:0<sP (Af x 1 y)) :
    IntKind.i64.wrap (0 - IntKind.i64.wrap ((IntKind.i64.wrap (Dm n d (Af x 1 y)*nF n d (Av y) (Af x 1 y))).tdiv (Dm n d x)))=nF n d x y:=by
  have e:=wq (Ce hS hz) (DD hS (x:=Av y) (by rw[B5];exact hy) hz) (Ce hS hx).1
  rw[Fz hS hz,Fz hS hx,e.1,w0 (by omega)]
  rw[Mg hS hx hy] at hz h3 ⊢
  exact(aR hS hx hy hz h1 h2 h3).symm
theorem cE (hS:(Ax n d).isSome=true)(hx:rtB (rSt n d) x=true)(hy:rtB (rSt n d) y=true)(hz:rtB (rSt n d) (Af x 1 y)=true)(h1:0<sP x)(h2 : ¬ 0<sP y)(h3 : ¬ 0<sP (Af x 1 y)) :
    IntKind.i64.wrap ((IntKind.i64.wrap (Dm n d (Af x 1 y)*nF n d (Av (Af x 1 y)) x)).tdiv (Dm n d y))=nF n d x y:=by
  rw[Fz hS hz,Fz hS hy,(wq (Ce hS hz) (DD hS (x:=Av (Af x 1 y)) (by rw[B5];exact hz) hx) (Ce hS hy).1).1]
  rw[Mg hS hx hy] at hz h3 ⊢
  exact(Ur hS hx hy hz h1 h2 h3).symm
theorem L6 (hS:(Ax n d).isSome=true)(hx:rtB (rSt n d) x=true)(hy:rtB (rSt n d) y=true):sP (Af x 1 y)=sP x+sP y:=by rw[Mg hS hx hy,MH hS hx hy]
theorem Ku (hS:(Ax n d).isSome=true)(hx:rtB (rSt n d) x=true)(h : ¬ 0<sP x):sP x<0:=(CG hS hx h).2
theorem eh (hS:(Ax n d).isSome=true)(hx:rtB (rSt n d) x=true)(hy:rtB (rSt n d) y=true)(h1 : ¬ 0<sP x)(h2 : ¬ 0<sP y){f:Nat}(hm:CQ x y<f+1):CQ (Av x) (Av y)<f:=by
  have:=cb (Ku hS hx h1) (Ku hS hy h2)
  omega
theorem fa (hS:(Ax n d).isSome=true)(hx:rtB (rSt n d) x=true)(h1 : ¬ 0<sP x)(h2:0<sP y){f:Nat}(hm:CQ x y<f+1):CQ y x<f:=by
  have:=cX (Ku hS hx h1) h2
  omega
theorem eS (hS:(Ax n d).isSome=true)(hx:rtB (rSt n d) x=true)(hy:rtB (rSt n d) y=true)(h1:0<sP x)(h2 : ¬ 0<sP y)(h3:0<sP (Af x 1 y)){f:Nat}(hm:CQ x y<f+1):CQ y (Av (Af x 1 y))<f:=by
  have:=Xq h1 (Ku hS hy h2) (L6 hS hx hy) h3
  omega
theorem fI (hS:(Ax n d).isSome=true)(hx:rtB (rSt n d) x=true)(hy:rtB (rSt n d) y=true)(h1:0<sP x)(h2 : ¬ 0<sP y)(h3:0<sP (Af x 1 y)){f:Nat}(hm:CQ x y<f+1):CQ (Av y) (Af x 1 y)<f:=by
  have:=YJ h1 (Ku hS hy h2) (L6 hS hx hy) h3
  omega
theorem ZW (hS:(Ax n d).isSome=true)(hx:rtB (rSt n d) x=true)(hy:rtB (rSt n d) y=true)(hz:rtB (rSt n d) (Af x 1 y)=true)(h1:0<sP x)(h2 : ¬ 0<sP y)(h3 : ¬ 0<sP (Af x 1 y)){f:Nat}(hm:CQ x y<f+1):CQ (Av (Af x 1 y)) x<f:=by
  have:=Xu h1 (Ku hS hy h2) (L6 hS hx hy) (Ku hS hz h3)
  omega
theorem eD (hS:(Ax n d).isSome=true)(hx:rtB (rSt n d) x=true)(hy:rtB (rSt n d) y=true)(h1 : ¬ 0<sP x)(h2 : ¬ 0<sP y){f:Nat}(hm:CQ x y<f+1):CQ (Fe x) (Fe y)<f:=by
  rw[DV hS hx,DV hS hy]
  exact eh hS hx hy h1 h2 hm
theorem cT (hS:(Ax n d).isSome=true)(hx:rtB (rSt n d) x=true)(hy:rtB (rSt n d) y=true)(hz:rtB (rSt n d) (Af x 1 y)=true)(h1:0<sP x)(h2 : ¬ 0<sP y)(h3:0<sP (Af x 1 y)){f:Nat}(hm:CQ x y<f+1):CQ y (Fe (Af x 1 y))<f:=by
  rw[DV hS hz]
  exact eS hS hx hy h1 h2 h3 hm
theorem cM (hS:(Ax n d).isSome=true)(hx:rtB (rSt n d) x=true)(hy:rtB (rSt n d) y=true)(hz:rtB (rSt n d) (Af x 1 y)=true)(h1:0<sP x)(h2 : ¬ 0<sP y)(h3 : ¬ 0<sP (Af x 1 y)){f:Nat}(hm:CQ x y<f+1):CQ (Fe (Af x 1 y)) x<f:=by
  rw[DV hS hz]
  exact ZW hS hx hy hz h1 h2 h3 hm
theorem cN_neg (hS:(Ax n d).isSome=true)(hx:rtB (rSt n d) x=true)(h:Ci x<0):(BP (Fe x) (Lg n d)).getD 0=hn n d x:=by
  rw[Oo hS hx] at h
  rw[DV hS hx,Q4 hS (CG hS hx (by omega)).1,L0]
theorem cN_pos (hS:(Ax n d).isSome=true)(hx:rtB (rSt n d) x=true)(h : ¬ Ci x<0):(BP x (Lg n d)).getD 0=hn n d x:=by
  rw[Oo hS hx] at h
  exact Q4 hS (CJ hS hx (by have:=dT hS hx;omega))
variable {z:List Int}{k:Nat}
theorem Ut (hS:(Ax n d).isSome=true)(hz:z∈rSt n d)(hk:k<(rSt n d).length):Af z (-1) ((rSt n d).getD k [])=lA z (-1) ((rSt n d).getD k []):=NI hS (.inr rfl) (Au hz) (Au (by
  have e:(rSt n d).getD k []=(rSt n d)[k]:=by simp[List.getD,hk]
  rw[e]
  exact List.getElem_mem hk))
theorem dj (hS:(Ax n d).isSome=true)(hz:z∈rSt n d)(hk:k<(rSt n d).length):SY n (A7 n d) (Af z (-1) ((rSt n d).getD k []))=(rSt n d).contains (lA z (-1) ((rSt n d).getD k [])):=by
  have l1:=(Ay hS hz).1
  have hlo:=(rtOk hS).lo
  rw[SY,(rtOk hS).look,D8,AQ,decide_eq_true (by omega),Bool.true_and,Ut hS hz hk]
theorem gw (hS:(Ax n d).isSome=true)(hz:z∈rSt n d)(hk:k<(rSt n d).length)(h:EL n (A7 n d) (Af z (-1) ((rSt n d).getD k []))=false):(rSt n d).contains (lA z (-1) ((rSt n d).getD k []))=false:=by
  rw[← dj hS hz hk]
  unfold EL at h
  unfold SY
  cases e:decide (((Af z (-1) ((rSt n d).getD k [])).length:Int)=n) with
  | false=>rfl
  | true =>
    rw[e,Bool.true_and,Bool.or_eq_false_iff] at h
    rw[h.1]
    rfl
theorem ZQ (hS:(Ax n d).isSome=true)(hz:z∈rSt n d)(hk:k<(rSt n d).length)(h0:∀ j,j<k→(rSt n d).contains (lA z (-1) ((rSt n d).getD j []))=false)(h1:(rSt n d).contains (lA z (-1) ((rSt n d).getD k []))=true) :
    ∃ p,Fst n d z k p ((rSt n d).getD k []) (Af z (-1) ((rSt n d).getD k [])):=by
  rw[Ut hS hz hk]
  exact bB hS hz hk h0 h1
theorem UO (hS:(Ax n d).isSome=true)(hx:x∈rSt n d)(hy:y∈rSt n d)(hz:Af x 1 y∈rSt n d)(h:∀ j,j<(rSt n d).length→(rSt n d).contains (lA (Af x 1 y) (-1) ((rSt n d).getD j []))=false):False:=by
  obtain⟨j,hj,rfl⟩:=List.mem_iff_getElem.1 hx
  have e:(rSt n d).getD j []=(rSt n d)[j]:=by simp[List.getD,hj]
  have h1:=h j hj
  have l1:=(Ay hS hx).1
  have l2:=(Ay hS hy).1
  rw[e,Mg hS (Au hx) (Au hy),Mx (by omega),AG.2 hy] at h1
  cases h1
theorem RM (hS:(Ax n d).isSome=true)(hx:rtB (rSt n d) x=true)(hy:rtB (rSt n d) y=true)(hz:rtB (rSt n d) (Af x 1 y)=true)(h1:0<sP x)(h2:0<sP y):x∈rSt n d∧y∈rSt n d∧Af x 1 y∈rSt n d :=
  ⟨CJ hS hx h1,CJ hS hy h2,CJ hS hz (by rw[L6 hS hx hy];omega)⟩
theorem ew (h1:0<sP x)(h2:0<sP y){f:Nat}(hm:CQ x y<f+1):4*(sP x+sP y).natAbs≤f:=by
  rw[dd h1 h2] at hm
  omega
variable {p:Nat}{r s:List Int}
theorem eU (hS:(Ax n d).isSome=true)(hx:x∈rSt n d)(hy:y∈rSt n d)(hF:Fst n d (Af x 1 y) k p r s){f:Nat}(hm:4*(sP x+sP y).natAbs≤f):CQ y (Av r)<f∧CQ x (Av s)<f∧CQ (Av r) x<f∧CQ y (Av s)<f :=
  cK (Int.lt_of_lt_of_le (by omega) (BS hS hx)) (Int.lt_of_lt_of_le (by omega) (BS hS hy)) (Int.lt_of_lt_of_le (by omega) (BS hS hF.hr)) (Int.lt_of_lt_of_le (by omega) (BS hS hF.hs)) (by rw[hF.sum,L6 hS (Au hx) (Au hy)]) hm
theorem eR (hS:(Ax n d).isSome=true)(hx:x∈rSt n d)(hy:y∈rSt n d)(hF:Fst n d (Af x 1 y) k p r s){f:Nat}(hm:4*(sP x+sP y).natAbs≤f):CQ y (Fe r)<f∧CQ x (Fe s)<f∧CQ (Fe r) x<f∧CQ y (Fe s)<f:=by
  rw[DV hS (Au hF.hr),DV hS (Au hF.hs)]
  exact eU hS hx hy hF hm
theorem fs_1 (hS:(Ax n d).isSome=true)(hx:x∈rSt n d)(hy:y∈rSt n d)(hF:Fst n d (Af x 1 y) k p r s)(h:Cu x r=true):(p:Int)+1=nF n d x y:=by
  rw[CL] at h
  rw[hF.at_ hx hy (Mg hS (Au hx) (Au hy)).symm,if_pos (of_decide_eq_true h).symm]
theorem fs_2 (hS:(Ax n d).isSome=true)(hx:x∈rSt n d)(hy:y∈rSt n d)(hF:Fst n d (Af x 1 y) k p r s)(h:Cu x r=false)(h2:Cu y r=true):IntKind.i64.wrap (0 - ((p:Int)+1))=nF n d x y:=by
  rw[CL] at h h2
  have:=hF.hp
  rw[hF.at_ hx hy (Mg hS (Au hx) (Au hy)).symm,if_neg (fun e=>of_decide_eq_false h e.symm),if_pos (of_decide_eq_true h2).symm,w0 (by omega)]
theorem az (hS:(Ax n d).isSome=true)(hx:x∈rSt n d)(hy:y∈rSt n d)(hF:Fst n d (Af x 1 y) k p r s)(h:Cu x r=false)(h2:Cu y r=false):nF n d x y=(hn n d (Af x 1 y)*(shF n d y (Av r) x (Av s)+shF n d (Av r) x y (Av s))).tdiv (6*((p:Int)+1)):=by
  rw[CL] at h h2
  rw[hF.at_ hx hy (Mg hS (Au hx) (Au hy)).symm,if_neg (fun e=>of_decide_eq_false h e.symm),if_neg (fun e=>of_decide_eq_false h2 e.symm)]
theorem fs_3 (hS:(Ax n d).isSome=true)(hx:x∈rSt n d)(hy:y∈rSt n d)(hz:Af x 1 y∈rSt n d)(hF:Fst n d (Af x 1 y) k p r s)(h:Cu x r=false)(h2:Cu y r=false) :
    IntKind.i64.wrap ((IntKind.i64.wrap (hn n d (Af x 1 y)*IntKind.i64.wrap (shF n d y (Fe r) x (Fe s)+shF n d (Fe r) x y (Fe s)))).tdiv (IntKind.i64.wrap (6*((p:Int)+1))))=nF n d x y:=by
  have hp:=hF.hp
  have b1:=UK hS (Au hy) (B6 hF.hr) (Au hx) (B6 hF.hs)
  have b2:=UK hS (B6 hF.hr) (Au hx) (Au hy) (B6 hF.hs)
  have bz:=Ce hS (Au hz)
  rw[az hS hx hy hF h h2,DV hS (Au hF.hr),DV hS (Au hF.hs),Aj (x:=shF n d y (Av r) x (Av s)+_) (by omega) (by omega)]
  have bu : -1728≤shF n d y (Av r) x (Av s)+shF n d (Av r) x y (Av s)∧shF n d y (Av r) x (Av s)+shF n d (Av r) x y (Av s)≤1728:=by omega
  generalize shF n d y (Av r) x (Av s)+shF n d (Av r) x y (Av s)=u at *
  have h3:=A9 (a:=hn n d (Af x 1 y)) (b:=u) (A:=3) (B:=1728) (by omega) (by omega)
  have h4:=C4 (a:=hn n d (Af x 1 y)*u) (b:=6*((p:Int)+1)) (by omega) (A:=5184) (by omega)
  rw[Aj (x:=hn n d (Af x 1 y)*u) (by omega) (by omega),Aj (x:=6*((p:Int)+1)) (by omega) (by omega),Aj (by omega) (by omega)]
theorem eJ (hS:(Ax n d).isSome=true){a b c e:List Int}(ha:rtB (rSt n d) a=true)(hb:rtB (rSt n d) b=true)(h:rtB (rSt n d) (Af a 1 b)=false):0=shF n d a b c e:=by
  rw[Mg hS ha hb] at h
  rw[shF,h]
  rfl
theorem cG (hS:(Ax n d).isSome=true){a b c e:List Int}(ha:rtB (rSt n d) a=true)(hb:rtB (rSt n d) b=true)(hc:rtB (rSt n d) c=true)(he:rtB (rSt n d) e=true)(h:rtB (rSt n d) (Af a 1 b)=true) :
    IntKind.i64.wrap ((IntKind.i64.wrap (IntKind.i64.wrap (6*nF n d a b)*nF n d c e)).tdiv (hn n d (Af a 1 b)))=shF n d a b c e:=by
  have h1:=DD hS ha hb
  have h2:=DD hS hc he
  have h3:=A9 (a:=6*nF n d a b) (b:=nF n d c e) (A:=72) (B:=12) (by omega) (by omega)
  have h4:=C4 (a:=6*nF n d a b*nF n d c e) (Ce hS h).1 (A:=864) (by omega)
  rw[Aj (x:=6*nF n d a b) (by omega) (by omega),Aj (x:=6*nF n d a b*nF n d c e) (by omega) (by omega),Aj (by omega) (by omega)]
  rw[Mg hS ha hb] at h ⊢
  rw[shF,if_pos h]
def QE (n:Int)(d u:List Int):Int:=if rtB (rSt n d) u then hn n d u else 1
def U5 (n:Int)(d u a b c e:List Int):Int:=if rtB (rSt n d) u then nF n d a b*nF n d c e else 0
theorem RG (hS:(Ax n d).isSome=true)(u:List Int):QE n d u=1∨QE n d u=2∨QE n d u=3:=by
  unfold QE
  split
  · rename_i h
    have:=Ce hS h
    omega
  · exact .inl rfl
theorem ae (hS:(Ax n d).isSome=true)(u:List Int){a b c e:List Int}(ha:rtB (rSt n d) a=true)(hb:rtB (rSt n d) b=true)(hc:rtB (rSt n d) c=true)(he:rtB (rSt n d) e=true) : -144≤U5 n d u a b c e∧U5 n d u a b c e≤144:=by
  unfold U5
  split
  · exact A9 (A:=12) (B:=12) (DD hS ha hb) (DD hS hc he)
  · omega
theorem Z2 (hS:(Ax n d).isSome=true){a b c e:List Int}:shF n d a b c e=(6*U5 n d (lA a 1 b) a b c e).tdiv (QE n d (lA a 1 b)):=by
  unfold shF U5 QE
  cases rtB (rSt n d) (lA a 1 b) with
  | true=>simp[Int.mul_assoc]
  | false=>rfl
theorem YQ (hS:(Ax n d).isSome=true)(hx:x∈rSt n d)(hy:y∈rSt n d)(hz:Af x 1 y∈rSt n d)(hF:Fst n d (Af x 1 y) k p r s)(h:Cu x r=false)(h2:Cu y r=false){a b nu nv:Int}
    (ha:a=U5 n d (Af y (-1) r) y (Av r) x (Av s)) (hb:b=U5 n d (Af x (-1) r) (Av r) x y (Av s)) (hu:nu=QE n d (Af y (-1) r)) (hv:nv=QE n d (Af x (-1) r)) :
    IntKind.i64.wrap ((IntKind.i64.wrap (Dm n d (Af x 1 y)*IntKind.i64.wrap (IntKind.i64.wrap (a*nv)+IntKind.i64.wrap (b*nu)))).tdiv (IntKind.i64.wrap (IntKind.i64.wrap (nu*nv)*((p:Int)+1))))=nF n d x y:=by
  have hp:=hF.hp
  have hr:=Au hF.hr
  have b1:=ae hS (Af y (-1) r) (Au hy) (B6 hF.hr) (Au hx) (B6 hF.hs)
  have b2:=ae hS (Af x (-1) r) (B6 hF.hr) (Au hx) (Au hy) (B6 hF.hs)
  have c1:=RG hS (Af y (-1) r)
  have c2:=RG hS (Af x (-1) r)
  have bz:=Ce hS (Au hz)
  have ey:Af y (-1) r=lA y 1 (Av r):=by rw[NI hS (.inr rfl) (Au hy) hr,QD 1 (Bm hS (Au hy) hr)]
  have ex:Af x (-1) r=lA (Av r) 1 x:=by rw[NI hS (.inr rfl) (Au hx) hr,← Ct (Bm hS (Au hx) (B6 hF.hr)),QD 1 (Bm hS (Au hx) hr)]
  rw[az hS hx hy hF h h2,Fz hS (Au hz),Z2 hS,Z2 hS,← ey,← ex,YT (a:=a) (b:=b) (nu:=nu) (nv:=nv) (by rw[hu];exact c1) (by rw[hv];exact c2) (by rw[ha,hu]) (by rw[hb,hv])]
  rw[← ha] at b1
  rw[← hb] at b2
  rw[← hu] at c1
  rw[← hv] at c2
  clear ha hb hu hv
  have e1:=A9 (a:=a) (b:=nv) (A:=144) (B:=3) (by omega) (by omega)
  have e2:=A9 (a:=b) (b:=nu) (A:=144) (B:=3) (by omega) (by omega)
  have e3:=A9 (a:=nu) (b:=nv) (A:=3) (B:=3) (by omega) (by omega)
  have e4:1≤nu*nv:=by rcases c1 with rfl | rfl | rfl <;> rcases c2 with rfl | rfl | rfl <;> decide
  rw[Aj (x:=a*nv) (by omega) (by omega),Aj (x:=b*nu) (by omega) (by omega),Aj (x:=nu*nv) (by omega) (by omega),Aj (x:=a*nv+b*nu) (by omega) (by omega)]
  have bu : -864≤a*nv+b*nu∧a*nv+b*nu≤864:=by omega
  generalize a*nv+b*nu=u at *
  generalize nu*nv=m at *
  have e5:=A9 (a:=hn n d (Af x 1 y)) (b:=u) (A:=3) (B:=864) (by omega) (by omega)
  have e6:=A9 (a:=m) (b:=(p:Int)+1) (A:=9) (B:=4) (by omega) (by omega)
  have e7:1≤m*((p:Int)+1):=Int.mul_pos (by omega) (by omega)
  have e8:=C4 (a:=hn n d (Af x 1 y)*u) e7 (A:=2592) (by omega)
  rw[Aj (x:=hn n d (Af x 1 y)*u) (by omega) (by omega),Aj (x:=m*((p:Int)+1)) (by omega) (by omega),Aj (by omega) (by omega)]
theorem fv (hS:(Ax n d).isSome=true)(hz:z∈rSt n d)(hk:k<(rSt n d).length):decide (0≤plF (rSt n d) (Af z (-1) ((rSt n d).getD k [])))=(rSt n d).contains (lA z (-1) ((rSt n d).getD k [])):=by rw[E3,Ut hS hz hk]
theorem Lr (hS:(Ax n d).isSome=true){u v:List Int}{q:Int}(hq:q=1∨q = -1)(hu:rtB (rSt n d) u=true)(hv:rtB (rSt n d) v=true):∀ j,j<(Af u q v).length → -1000≤(Af u q v).getD j 0∧(Af u q v).getD j 0≤1000:=fun j _=>by
  have:=bs (Bm hS hu hv) (k:=q) (by omega) (Aw hS hu).2.1 (Aw hS hv).2.1 j
  rw[NI hS hq hu hv]
  omega
theorem Hy (hS:(Ax n d).isSome=true)(hx:rtB (rSt n d) x=true)(h:EJ x=true):0<sP x:=of_decide_eq_true ((UM hS hx).symm.trans h)
theorem Hz (hS:(Ax n d).isSome=true)(hx:rtB (rSt n d) x=true)(h:EJ x=false) : ¬ 0<sP x:=of_decide_eq_false ((UM hS hx).symm.trans h)
theorem EU (hS:(Ax n d).isSome=true){u:List Int}(h:rtB (rSt n d) u=true):Dm n d u=QE n d u:=by rw[QE,if_pos h,Fz hS h]
theorem Hp {u:List Int}(h:rtB (rSt n d) u=false):1=QE n d u:=by rw[QE,h];rfl
theorem QB {u a b c e:List Int}(h:rtB (rSt n d) u=false):0=U5 n d u a b c e:=by rw[U5,h];rfl
theorem Mr (hS:(Ax n d).isSome=true){u a b c e:List Int}(ha:rtB (rSt n d) a=true)(hb:rtB (rSt n d) b=true)(hc:rtB (rSt n d) c=true)(he:rtB (rSt n d) e=true)(h:rtB (rSt n d) u=true):IntKind.i64.wrap (nF n d a b*nF n d c e)=U5 n d u a b c e:=by
  have h3:=A9 (a:=nF n d a b) (b:=nF n d c e) (A:=12) (B:=12) (DD hS ha hb) (DD hS hc he)
  rw[U5,if_pos h,Aj (by omega) (by omega)]
theorem Qg (hS:(Ax n d).isSome=true){u v:List Int}{nu nv:Int}(hu:nu=QE n d u)(hv:nv=QE n d v)(hp:p≤3):IntKind.i64.wrap (IntKind.i64.wrap (nu*nv)*((p:Int)+1))≠0:=by
  have c1:=RG hS u
  have c2:=RG hS v
  rw[← hu] at c1
  rw[← hv] at c2
  have e3:=A9 (a:=nu) (b:=nv) (A:=3) (B:=3) (by omega) (by omega)
  have e4:1≤nu*nv:=by rcases c1 with rfl | rfl | rfl <;> rcases c2 with rfl | rfl | rfl <;> decide
  have e6:=A9 (a:=nu*nv) (b:=(p:Int)+1) (A:=9) (B:=4) (by omega) (by omega)
  have e7:1≤nu*nv*((p:Int)+1):=Int.mul_pos (by omega) (by omega)
  rw[Aj (x:=nu*nv) (by omega) (by omega),Aj (by omega) (by omega)]
  omega
theorem fD (hS:(Ax n d).isSome=true)(hx:x∈rSt n d)(hy:y∈rSt n d){q:Nat}(hq:q=(plF (rSt n d) x).toNat*(rSt n d).length+(plF (rSt n d) y).toNat):IntKind.i64.wrap (IntKind.i64.wrap (plF (rSt n d) x*((rSt n d).length:Int))+plF (rSt n d) y)=(q:Int)∧q<(rSt n d).length*(rSt n d).length:=by
  obtain⟨a1,_,a3⟩:=DQ hx
  obtain⟨b1,_,b3⟩:=DQ hy
  have hl:(rSt n d).length≤30:=by have h1:=(rtOk hS).slen;have h2:=(rtOk hS).few;omega
  have h3:=A9 (a:=plF (rSt n d) x) (b:=((rSt n d).length:Int)) (A:=30) (B:=30) (by omega) (by omega)
  have h4:((q:Nat):Int)=plF (rSt n d) x*((rSt n d).length:Int)+plF (rSt n d) y:=by
    rw[hq,Int.natCast_add,Int.natCast_mul,Int.toNat_of_nonneg a3,Int.toNat_of_nonneg b3]
  rw[Aj (x:=plF (rSt n d) x*((rSt n d).length:Int)) (by omega) (by omega),Aj (by omega) (by omega)]
  exact⟨h4.symm,by rw[hq];exact Nh a1 b1⟩
theorem Fv.getq {ds:List Bool}{vs:List Int}(h:Fv n d ds vs)(hx:x∈rSt n d)(hy:y∈rSt n d){q:Nat}(hq:q=(plF (rSt n d) x).toNat*(rSt n d).length+(plF (rSt n d) y).toNat)(hd:ds.getD q false=true):vs.getD q 0=nF n d x y:=by
  obtain⟨a1,a2,_⟩:=DQ hx
  obtain⟨b1,b2,_⟩:=DQ hy
  rw[hq] at hd ⊢
  have:=h.2.2 _ _ a1 b1 hd
  rwa [a2,b2] at this
theorem Fv.setq {ds:List Bool}{vs:List Int}(h:Fv n d ds vs)(hx:x∈rSt n d)(hy:y∈rSt n d){q:Nat}(hq:q=(plF (rSt n d) x).toNat*(rSt n d).length+(plF (rSt n d) y).toNat):Fv n d (ds.set q true) (vs.set q (nF n d x y)):=by
  obtain⟨a1,a2,_⟩:=DQ hx
  obtain⟨b1,b2,_⟩:=DQ hy
  rw[hq]
  exact h.set a1 b1 (by rw[a2,b2])
theorem fK {vs:List Int}{q:Nat}{v:Int}(h:q<vs.length):(vs.set q v).getD q 0=v:=by simp[List.getD,h]
theorem KK (hx:rtB (rSt n d) x=true):rtB (rSt n d) (Av x)=true:=by rw[B5];exact hx
end
end Go.Proofs.YtbmnnbglipkidaaGreatDoor
