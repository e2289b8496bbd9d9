/-
  MatrixOk (the program's and the reference's), by its contract.
-/
import Derived.Test.YtbmnnbglipkidaaGreatDoorPrime
import Derived.Test.YtbmnnbglipkidaaGreatDoorFct
import Derived.Test.YtbmnnbglipkidaaGreatDoorWNewA
import Derived.Test.YtbmnnbglipkidaaGreatDoorZ27
import Derived.Test.YtbmnnbglipkidaaGreatDoorZ17
namespace Go.Proofs.YtbmnnbglipkidaaGreatDoor
set_option linter.unusedVariables false
set_option linter.unusedSimpArgs false
open Go.RowKit
end Go.Proofs.YtbmnnbglipkidaaGreatDoor
namespace Go.Proofs.YtbmnnbglipkidaaGreatDoor
set_option linter.unusedVariables false
set_option linter.unusedSimpArgs false
open Go.RowKit
theorem tmod_bd (n p:Int)(hp:1≤p) : -p<n.tmod p∧n.tmod p<p:=by
  constructor
  · rcases Int.le_total 0 n with h | h
    · have:=Int.tmod_nonneg p h;omega
    · have h1:=Int.tmod_lt_of_pos (-n) (b:=p) (by omega)
      rw[Int.neg_tmod] at h1
      omega
  · exact Int.tmod_lt_of_pos n (by omega)
theorem tmod_add (n p:Int):(n.tmod p+p)%p=n%p:=by
  have h:n=n.tmod p+p*n.tdiv p:=(Int.tmod_add_mul_tdiv n p).symm
  rw[Int.add_emod_right]
  conv=>rhs;rw[h]
  rw[Int.add_mul_emod_self_left]
theorem mod_any (n p:Int)(w:World)(hp:1≤p)(hp1:p≤1000000) :
    Calls Tryz.prog 65 #[.int .i64 n,.int .i64 p] w fun e w'=>e = .returned (.int .i64 (n%p))∧w=w':=by
  obtain⟨h1,h2⟩:=tmod_bd n p hp
  by_cases h0:0≤n
  · have hm:n.tmod p=n%p:=by rw[Int.tmod_eq_emod_of_nonneg h0]
    rw[hm] at h1 h2
    have HM:=hid hm;clear hm
    go_enter Tryz.func65,Tryz.ntmps65
    go_wp2
    go_ret
    exact⟨ret_int (by rw[Int.add_emod_right,Int.emod_emod_of_dvd _ (Int.dvd_refl p)]),rfl⟩
  · go_enter Tryz.func65,Tryz.ntmps65
    go_wp2
    go_ret
    exact⟨ret_int (by rw[← tmod_add n p,Int.add_emod_right]),rfl⟩
end Go.Proofs.YtbmnnbglipkidaaGreatDoor
namespace Go.Proofs.YtbmnnbglipkidaaGreatDoor
set_option linter.unusedVariables false
set_option linter.unusedSimpArgs false
open Go.RowKit
theorem isPrime_s {W:World}{own:List Asn}{n:Int}:Spec Tryz.prog 61 [.int .i64 (n)] W own (fun v ow=>v = .bool (primeB n)∧ow=own):=Spec.same fun w _=>isPrime_any n w
theorem specIsPrime_s {W:World}{own:List Asn}{n:Int}:Spec Tryz.prog 59 [.int .i64 (n)] W own (fun v ow=>v = .bool (primeB n)∧ow=own):=Spec.same fun w _=>specIsPrime_any n w
theorem mod_s {W:World}{own:List Asn}{n:Int}{p:Int}(hp:1≤p∧p≤1000000):Spec Tryz.prog 65 [.int .i64 (n),.int .i64 (p)] W own (fun v ow=>v = .int .i64 (n%p)∧ow=own):=Spec.same fun w _=>mod_any n p w hp.1 hp.2
end Go.Proofs.YtbmnnbglipkidaaGreatDoor
namespace Go.Proofs.YtbmnnbglipkidaaGreatDoor
set_option linter.unusedVariables false
set_option linter.unusedSimpArgs false
theorem not_nil {own:List Asn}{v:Value}{xs:List Int}(h:Ent own fun w=>Ints w v xs)(hl:0<xs.length):Ent own fun _=>isNilV v=false:=fun W w hs=>by
  cases e:isNilV v with
  | false=>rfl
  | true =>
    have:=nil_ints (h W w hs) e
    rw[this] at hl
    exact absurd hl (by simp)
def opA (b:Bool)(A:Asn):Asn:=pack (if b then[A] else[])
section
variable {P:Program}{W:World}{own:List Asn}{env:List (Nat × Value)}{m:Nat}{Q:Exit→Act→World→Prop}{A:Asn}{b:Bool}
theorem GE.opNo {e:Exit}(hb:b=false)(h:GE e Q m env W (Proofs.YtbmnnbglipkidaaGreatDoor.opA b A::own)):GE e Q m env W own:=fun a w hf hs=>h a w hf (by subst hb;exact St.pack (L:=[]) hs)
theorem GE.opYes {e:Exit}(hb:b=true)(h:GE e Q m env W (Proofs.YtbmnnbglipkidaaGreatDoor.opA b A::own)):GE e Q m env W (A::own):=fun a w hf hs=>h a w hf (by subst hb;exact St.pack (L:=[A]) hs)
theorem Ent.opA {V:World→Prop}{i:Nat}(h:own[i]?=some (Proofs.YtbmnnbglipkidaaGreatDoor.opA b A))(hb:b=true)(hV:Ent (A::own.eraseIdx i) V):Ent own V:=fun W w hs=>hV W w (by
  have h2:=hs.perm (perm_front h)
  subst hb
  exact St.unpack h2)
end
section
variable {n:Int}{d:List Int}{x y:List Int}{p:Int}{i j:Nat}
theorem el_view {own:List Asn}{v:Value}{us:List Value}{e k:Nat}(hH:smH n d i=false)(hin:i<smM n d→v=us.getD i undef)(hm:∀ k,k<(rSt n d).length→Ent own fun w=>Ints w (us.getD k undef) ((rSt n d).getD k []))
    (ho:own[k]?=some (opA (decide (smM n d+n.toNat≤i)) (ints e v (smR n d i)))):Ent own fun w=>Ints w v (smR n d i):=by
  by_cases h:i<smM n d
  · rw[hin h,smR,if_pos h]
    exact hm i h
  · unfold smH at hH
    rw[decide_eq_true (by omega),Bool.true_and] at hH
    have:=of_decide_eq_false hH
    exact Ent.opA ho (decide_eq_true (by omega)) (Ent.ints (i:=0) rfl)
theorem zero_eq (hS:(tyS n d).isSome=true)(hx:rtB (rSt n d) x=true)(hy:rtB (rSt n d) y=true):zeroB (lpF x 1 y)=decide (x=mnF y):=by
  have hl:=lenR_of hS hx hy
  rw[lp1 hS hx hy]
  by_cases e:x=mnF y
  · rw[decide_eq_true e]
    refine List.all_eq_true.2 fun q hq=>?_
    obtain⟨k,hk,rfl⟩:=List.mem_iff_getElem.1 hq
    have e2:(lA x 1 y).getD k 0=(lA x 1 y)[k]:=by simp[List.getD,hk]
    have hk':k<x.length:=by rw[lA_len hl] at hk;exact hk
    have e3:=mnF_get y k
    rw[← e] at e3
    rw[lA_get hk' hl] at e2
    simp only[beq_iff_eq]
    omega
  · rw[decide_eq_false e]
    cases h:zeroB (lA x 1 y) with
    | false=>rfl
    | true =>
      refine absurd (ext_getD (by rw[mnF_len];exact hl.symm) fun k hk=>?_) e
      have hk2:k<(lA x 1 y).length:=by rw[lA_len hl];exact hk
      have h1:=(List.all_eq_true.1 h) _ (List.getElem_mem hk2)
      have e2:(lA x 1 y).getD k 0=(lA x 1 y)[k]:=by simp[List.getD,hk2]
      rw[lA_get hk hl] at e2
      simp only[beq_iff_eq] at h1
      rw[mnF_get]
      omega
theorem el_3 (hS:(tyS n d).isSome=true)(h1:(rSt n d).length+n.toNat≤i)(h2:i<2*(rSt n d).length+n.toNat){q:Nat}(hq:q=i - (rSt n d).length - n.toNat):lpF (List.replicate ((rSt n d).getD q []).length 0) (-1) ((rSt n d).getD q [])=mnF ((rSt n d).getD (i - (rSt n d).length - n.toNat) []):=by
  subst hq
  exact ng_of hS (rt_in (getR_mem (by omega)))
theorem ix_eq (hS:(tyS n d).isSome=true)(hx:rtB (rSt n d) x=true)(hy:rtB (rSt n d) y=true)(hz:rtB (rSt n d) (lpF x 1 y)=true):fdI n (rSt n d).length (rKvs n d) (lpF x 1 y)=l7I n (rSt n d) (lA x 1 y)∧0≤l7I n (rSt n d) (lA x 1 y)∧l7I n (rSt n d) (lA x 1 y)<smN n d:=by
  have hlo:=(rtOk hS).lo
  obtain⟨z1,z2,_⟩:=rt_tens hS hz
  have hw:wtOk n (lpF x 1 y)=true:=ten_wt (by omega) z2
  rw[(rtOk hS).ri (lpF_all64 (rt_64 hS hx)),if_pos hw,lp1 hS hx hy]
  rw[lp1 hS hx hy] at hz
  exact⟨rfl,l7I_lt hS hz⟩
theorem wtA (hS:(tyS n d).isSome=true)(hx:rtB (rSt n d) x=true)(q:Nat) : -12000≤(wtF n d x).getD q 0∧(wtF n d x).getD q 0≤12000:=by
  obtain⟨x1,x2,x3⟩:=rt_tens hS hx
  by_cases hq:q<n.toNat
  · exact(wtF_at (rtOk hS).mat (fun k _=>by have:=x2 k;omega) x1 x3 hq).2
  · simp[List.getD,List.getElem?_eq_none (show (wtF n d x).length≤q by rw[wtF_len];omega)]
theorem in_two (hS:(tyS n d).isSome=true)(hx:rtB (rSt n d) x=true):2≤inF n d x x∧inF n d x x≤2000000000:=by
  obtain⟨x1,x2,x3⟩:=rt_tens hS hx
  have hlo:=(rtOk hS).lo
  have hw:wtOk n x=true:=ten_wt (by omega) x2
  have:=inF_bd hS hw hw
  exact⟨rt_two hS hw hx,by omega⟩
theorem row_co (hS:(tyS n d).isSome=true)(h1:smH n d i=false)(h2:smH n d j=false)(hi:i<smN n d)(hj:j<smN n d)(hz:zeroB (lpF (smR n d i) 1 (smR n d j))=true):coR n d p i n.toNat=rwF n d p i j:=by
  rw[zero_eq hS (smR_rt hS hi h1) (smR_rt hS hj h2)] at hz
  exact rw_co h1 h2 (of_decide_eq_true hz)
theorem row_N (hS:(tyS n d).isSome=true)(h1:smH n d i=false)(h2:smH n d j=false)(hi:i<smN n d)(hj:j<smN n d)(hz:zeroB (lpF (smR n d i) 1 (smR n d j))=false)(hr:rtB (rSt n d) (lpF (smR n d i) 1 (smR n d j))=true) :
    (List.replicate (smN n d) 0).set (fdI n (rSt n d).length (rKvs n d) (lpF (smR n d i) 1 (smR n d j))).toNat (nF n d (smR n d i) (smR n d j)%p)=rwF n d p i j:=by
  have ri:=smR_rt hS hi h1
  have rj:=smR_rt hS hj h2
  rw[zero_eq hS ri rj] at hz
  rw[(ix_eq hS ri rj hr).1]
  rw[lp1 hS ri rj] at hr
  exact rw_N hS hi hj h1 h2 (of_decide_eq_false hz) hr
theorem row_no (hS:(tyS n d).isSome=true)(h1:smH n d i=false)(h2:smH n d j=false)(hi:i<smN n d)(hj:j<smN n d)(hz:zeroB (lpF (smR n d i) 1 (smR n d j))=false)(hr:rtB (rSt n d) (lpF (smR n d i) 1 (smR n d j))=false):List.replicate (smN n d) 0=rwF n d p i j:=by
  have ri:=smR_rt hS hi h1
  have rj:=smR_rt hS hj h2
  rw[zero_eq hS ri rj] at hz
  rw[lp1 hS ri rj] at hr
  exact rw_no h1 h2 (of_decide_eq_false hz) hr
theorem coR_next {t:Nat}:(coR n d p i t).set (smM n d+t) ((crF n d (smR n d i)).getD t 0%p)=coR n d p i (t+1):=by
  rw[coR,coR,foldl_succ]
theorem smR_3 (h:smM n d+n.toNat≤i):smR n d i=mnF ((rSt n d).getD (i - (rSt n d).length - n.toNat) []):=if_neg (by omega)
theorem smH_1 (h:i<smM n d):smH n d i=false:=by unfold smH;rw[decide_eq_false (p:=smM n d≤i) (by omega)];rfl
theorem smH_2 (h1:smM n d≤i)(h2:i<smM n d+n.toNat):smH n d i=true:=by unfold smH;rw[decide_eq_true h1,decide_eq_true h2];rfl
theorem smH_bd (h:smH n d i=true):smM n d≤i∧i<smM n d+n.toNat:=by
  unfold smH at h
  simpa using h
theorem crF_len (n:Int)(d x:List Int):(crF n d x).length=x.length:=by simp[crF]
theorem smH_3 (h:smM n d+n.toNat≤i):smH n d i=false:=by unfold smH;rw[decide_eq_false (p:=i<smM n d+n.toNat) (by omega),Bool.and_false]
end
theorem TbI.stepq {n:Int}{d us:List Int}{p:Int}{i j k q1 q2:Nat}{v w:Int}(hS:(tyS n d).isSome=true)(h:TbI n d p i j k us)(hi:i<smN n d)(hj:j<i)(hk:k<smN n d)(h1:q1=(i*smN n d+j)*smN n d+k)(h2:q2=(j*smN n d+i)*smN n d+k)(hv:v=stE n d i j k%p)(hw:w=(0 - v)%p) :
    TbI n d p i j (k+1) ((us.set q1 v).set q2 w):=by
  subst h1 h2 hw
  exact h.step hS hi hj hk hv
theorem rw_bd {n:Int}{d:List Int}{p:Int}{i j k:Nat}(hp:1≤p):0≤(rwF n d p i j).getD k 0∧(rwF n d p i j).getD k 0<p:=by
  by_cases hk:k<smN n d
  · rw[rwF_get hk]
    exact⟨Int.emod_nonneg _ (by omega),Int.emod_lt_of_pos _ (by omega)⟩
  · simp only[List.getD,List.getElem?_eq_none (show (rwF n d p i j).length≤k by rw[rwF_len];omega),Option.getD_none]
    omega
theorem at3 {N i j k q:Nat}(hN:N≤28)(hi:i<N)(hj:j<N)(hk:k<N)(hq:q=(i*N+j)*N+k):IntKind.i64.wrap (IntKind.i64.wrap (IntKind.i64.wrap (IntKind.i64.wrap ((i:Int)*(N:Int))+(j:Int))*(N:Int))+(k:Int))=(q:Int)∧q<N*N*N:=by
  have h1:=tr_lt hi hj hk
  have a1:i*N≤28*28:=Nat.mul_le_mul (by omega) hN
  have a2:(i*N+j)*N≤1000*28:=Nat.mul_le_mul (by omega) hN
  have e1:(i:Int)*(N:Int)=((i*N:Nat):Int):=(Int.natCast_mul i N).symm
  have e2:((i*N:Nat):Int)+(j:Int)=((i*N+j:Nat):Int):=rfl
  have e3:((i*N+j:Nat):Int)*(N:Int)=(((i*N+j)*N:Nat):Int):=(Int.natCast_mul _ N).symm
  rw[e1,wrap_in (x:=((i*N:Nat):Int)) (by omega) (by omega),e2,wrap_in (x:=((i*N+j:Nat):Int)) (by omega) (by omega),e3,wrap_in (x:=(((i*N+j)*N:Nat):Int)) (by omega) (by omega),wrap_in (by omega) (by omega)]
  exact⟨by rw[hq];rfl,by rw[hq];exact h1⟩
theorem cube_eq {N:Nat}(hN:N≤28):IntKind.i64.wrap (IntKind.i64.wrap ((N:Int)*(N:Int))*(N:Int))=((N*N*N:Nat):Int)∧N*N*N≤21952:=by
  have a1:N*N≤28*28:=Nat.mul_le_mul hN hN
  have a2:N*N*N≤784*28:=Nat.mul_le_mul a1 hN
  have e1:(N:Int)*(N:Int)=((N*N:Nat):Int):=(Int.natCast_mul N N).symm
  have e3:((N*N:Nat):Int)*(N:Int)=((N*N*N:Nat):Int):=(Int.natCast_mul _ N).symm
  rw[e1,wrap_in (x:=((N*N:Nat):Int)) (by omega) (by omega),e3,wrap_in (by omega) (by omega)]
  exact⟨rfl,a2⟩
def smOk (n:Int)(d:List Int)(p:Int):Bool:=(tyS n d).isSome&&(primeB p&&decide (smN n d≤28))
def smAp (n:Int)(d:List Int)(p:Int):Int:=if smOk n d p then p else 0
def smAn (n:Int)(d:List Int)(p:Int):Int:=if smOk n d p then(smN n d:Int) else 0
def smAd (n:Int)(d:List Int)(p:Int):List Int:=if smOk n d p then stT n d p else[]
end Go.Proofs.YtbmnnbglipkidaaGreatDoor
namespace Go.Proofs.YtbmnnbglipkidaaGreatDoor
set_option linter.unusedVariables false
set_option linter.unusedSimpArgs false
theorem flat_next {L:List (List Int)}{k:Nat}(hk:k<L.length):(L.take k).flatten++L.getD k []=(L.take (k+1)).flatten:=by
  rw[takeD_snoc (d:=[]) hk,List.flatten_append]
  simp
theorem flat_lenS {L:List (List Int)}{k:Nat}(hk:k<L.length):(L.take (k+1)).flatten.length=(L.take k).flatten.length+(L.getD k []).length:=by
  rw[← flat_next hk,List.length_append]
theorem flat_le {L:List (List Int)}(h:∀ k,k<L.length→(L.getD k []).length≤64):∀ k,k≤L.length→(L.take k).flatten.length≤64*k
  | 0,_=>by simp
  | k+1,hk=>by
    have h1:=flat_le h k (by omega)
    have h2:=h k (by omega)
    rw[flat_lenS (by omega)]
    omega
theorem flat_all {L:List (List Int)}{k:Nat}(hk:k=L.length):(L.take k).flatten=L.flatten:=by rw[hk,List.take_length]
def csR (n:Int)(d:List Int)(k:Nat):List (List Int):=(List.range k).map fun i=>unitL (smN n d) (smM n d+i)
section
variable {n:Int}{d:List Int}{p:Int}{k:Nat}
theorem csR_next {a b:Int}(ha:a=(smN n d:Nat))(hb:b=((smM n d+k:Nat):Int)):csR n d k++[unitL a.toNat b.toNat]=csR n d (k+1):=by
  rw[csR,csR,List.range_succ,List.map_append,ha,hb]
  rfl
theorem csR_len:(csR n d k).length=k:=by simp[csR]
theorem csR_get {j:Nat}(hj:j<k):((csR n d k).getD j []).length=smN n d:=by
  simp[csR,List.getD,hj,unitL]
theorem csR_le (h:smN n d≤28):∀ j,j<(csR n d k).length→((csR n d k).getD j []).length≤64:=fun j hj=>by
  rw[csR_get (by rwa [csR_len] at hj)]
  omega
def csP (n:Int)(d:List Int)(p:Int):Int:=if smOk n d p then p else 0
def csr (n:Int)(d:List Int)(p:Int):Int:=if smOk n d p then(n.toNat:Int) else 0
def csC (n:Int)(d:List Int)(p:Int):Int:=if smOk n d p then(smN n d:Int) else 0
def csD (n:Int)(d:List Int)(p:Int):List Int:=if smOk n d p then(csR n d n.toNat).flatten else[]
theorem smOk_S (h:smOk n d p=true):(tyS n d).isSome=true∧primeB p=true∧smN n d≤28:=by
  simp only[smOk,Bool.and_eq_true,decide_eq_true_eq] at h
  exact⟨h.1,h.2.1,h.2.2⟩
theorem csD_len (n:Int)(d:List Int)(p:Int):(csD n d p).length≤256:=by
  unfold csD
  cases e:smOk n d p with
  | false=>simp
  | true =>
    have h:=smOk_S e
    have h4:=(rtOk h.1).rk
    have h1:=flat_le (csR_le (k:=n.toNat) h.2.2) n.toNat (by rw[csR_len];exact Nat.le_refl _)
    rw[if_pos rfl,← flat_all (k:=n.toNat) csR_len.symm]
    omega
theorem quo2 {a m:Int}(h:a=2*m):a.tdiv 2=m:=by rw[h];exact Int.mul_tdiv_cancel_left m (by decide)
theorem quo2w {a:Int}{m:Nat}(h:a=2*(m:Int))(hm:m≤64):IntKind.i64.wrap (a.tdiv 2)=(m:Int):=by
  rw[quo2 h]
  exact wrap_in (by omega) (by omega)
end
end Go.Proofs.YtbmnnbglipkidaaGreatDoor
