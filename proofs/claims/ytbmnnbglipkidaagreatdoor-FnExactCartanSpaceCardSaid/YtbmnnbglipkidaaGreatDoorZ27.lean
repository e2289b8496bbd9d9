/-
  Constants of roots and strings of roots: what the law on constants asks. No program is spoken of.
-/
import Derived.Test.YtbmnnbglipkidaaGreatDoorZ22
import Derived.Test.YtbmnnbglipkidaaGreatDoorCnx
namespace Go.Proofs.YtbmnnbglipkidaaGreatDoor
set_option linter.unusedVariables false
set_option linter.unusedSimpArgs false
section
variable {n:Int}{d:List Int}
theorem nF_sw (hS:(tyS n d).isSome=true){x y:List Int}(hx:rtB (rSt n d) x=true)(hy:rtB (rSt n d) y=true):nF n d y x = -(nF n d x y):=by
  by_cases h1:0<sP x
  · by_cases h2:0<sP y
    · by_cases hz:rtB (rSt n d) (lA x 1 y)=true
      · have ey:rtB (rSt n d) (lA y 1 x)=true:=by rw[lA_comm (lenR_of hS hy hx)];exact hz
        have D:=dec_of hS (rt_pos hS hx h1) (rt_pos hS hy h2) (rt_pos hS hz (by rw[sP_add hS hx hy];omega))
        rw[nF_pp hS hz h1 h2,nF_pp hS ey h2 h1,lA_comm (lenR_of hS hy hx),(tb_at hS D).2.2]
      · have hz0:rtB (rSt n d) (lA x 1 y)=false:=by simpa using hz
        rw[nF_no hS hz0,nF_no hS (by rw[lA_comm (lenR_of hS hy hx)];exact hz0)]
        rfl
    · rw[nF_np hS hy hx h2 h1]
  · by_cases h2:0<sP y
    · rw[nF_np hS hx hy h1 h2,Int.neg_neg]
    · have nx:=(rt_neg hS hx h1).1
      have ny:=(rt_neg hS hy h2).1
      have px:=sP_root hS nx
      have py:=sP_root hS ny
      rw[nF_nn hS hx hy h1 h2,nF_nn hS hy hx h2 h1]
      by_cases hz:rtB (rSt n d) (lA x 1 y)=true
      · have e1:rtB (rSt n d) (lA (mnF x) 1 (mnF y))=true:=by rw[mn_add hS hx hy,rtB_mn];exact hz
        have e2:rtB (rSt n d) (lA (mnF y) 1 (mnF x))=true:=by rw[mn_add hS hy hx,rtB_mn,lA_comm (lenR_of hS hy hx)];exact hz
        have D:=dec_of hS nx ny (rt_pos hS e1 (by rw[sP_add hS (rt_in nx) (rt_in ny)];omega))
        rw[nF_pp hS e1 (by omega) (by omega),nF_pp hS e2 (by omega) (by omega),mn_add hS hy hx,mn_add hS hx hy,lA_comm (lenR_of hS hy hx)]
        have:=(tb_at hS D).2.2
        rw[mn_add hS hx hy] at this
        rw[this]
      · have hz0:rtB (rSt n d) (lA x 1 y)=false:=by simpa using hz
        rw[nF_no hS (x:=mnF x) (by rw[mn_add hS hx hy,rtB_mn];exact hz0),nF_no hS (x:=mnF y) (by rw[mn_add hS hy hx,rtB_mn,lA_comm (lenR_of hS hy hx)];exact hz0)]
        rfl
end
end Go.Proofs.YtbmnnbglipkidaaGreatDoor
namespace Go.Proofs.YtbmnnbglipkidaaGreatDoor
set_option linter.unusedVariables false
set_option linter.unusedSimpArgs false
section
variable {n:Int}{d:List Int}
def smM (n:Int)(d:List Int):Nat:=(rSt n d).length
def smN (n:Int)(d:List Int):Nat:=2*smM n d+n.toNat
def smH (n:Int)(d:List Int)(i:Nat):Bool:=decide (smM n d≤i)&&decide (i<smM n d+n.toNat)
def smR (n:Int)(d:List Int)(i:Nat):List Int:=if i<smM n d then(rSt n d).getD i [] else mnF ((rSt n d).getD (i - smM n d - n.toNat) [])
def stE (n:Int)(d:List Int)(i j k:Nat):Int :=
  if smH n d i then(if smH n d j then 0 else if k=j then(wtF n d (smR n d j)).getD (i - smM n d) 0 else 0)
  else if smH n d j then(if k=i then -((wtF n d (smR n d i)).getD (j - smM n d) 0) else 0)
  else if smR n d i=mnF (smR n d j) then(if smM n d≤k∧k<smM n d+n.toNat then(crF n d (smR n d i)).getD (k - smM n d) 0 else 0)
  else if rtB (rSt n d) (lA (smR n d i) 1 (smR n d j))=true then(if (k:Int)=l7I n (rSt n d) (lA (smR n d i) 1 (smR n d j)) then nF n d (smR n d i) (smR n d j) else 0) else 0
theorem smR_rt (hS:(tyS n d).isSome=true){i:Nat}(hi:i<smN n d)(hh:smH n d i=false):rtB (rSt n d) (smR n d i)=true:=by
  unfold smR
  unfold smH at hh
  unfold smN at hi
  by_cases h:i<smM n d
  · rw[if_pos h]
    exact rt_in (getR_mem h)
  · rw[if_neg h]
    rw[decide_eq_true (by omega),Bool.true_and] at hh
    have:=of_decide_eq_false hh
    exact rt_mn (getR_mem (by unfold smM at *;omega))
theorem crF_get (hS:(tyS n d).isSome=true){x:List Int}(hx:rtB (rSt n d) x=true){i:Nat}(hi:i<n.toNat):(crF n d x).getD i 0=(x.getD i 0*(lenF n d).getD i 0).tdiv (hn n d x) ∧ -360≤(crF n d x).getD i 0∧(crF n d x).getD i 0≤360:=by
  obtain⟨x1,x2,x3⟩:=rt_tens hS hx
  have hl:=(rnOk hS).len i
  have h1:=x2 i
  have h3:=mul_abs (a:=x.getD i 0) (b:=(lenF n d).getD i 0) (A:=10) (B:=36) (by omega) (by omega)
  have h4:=tdiv_abs (a:=x.getD i 0*(lenF n d).getD i 0) (hn_two hS hx) (A:=360) (by omega)
  have e:(crF n d x).getD i 0=crI n d x i:=by simp[crF,List.getD,show i<x.length by omega]
  rw[e,crI,hf_of hS hx,wrap_in (x:=x.getD i 0*(lenF n d).getD i 0) (by omega) (by omega),wrap_in (by omega) (by omega)]
  exact⟨rfl,h4⟩
theorem cr_minus2 (hS:(tyS n d).isSome=true){x:List Int}(hx:rtB (rSt n d) x=true){i:Nat}(hi:i<n.toNat):(crF n d (mnF x)).getD i 0 = -((crF n d x).getD i 0):=by
  rw[(crF_get hS (rt_mn2 hx) hi).1,(crF_get hS hx hi).1,mnF_get,hn_mn,Int.neg_mul,Int.neg_tdiv]
theorem stE_anti (hS:(tyS n d).isSome=true){i j:Nat}(hi:i<smN n d)(hj:j<smN n d)(k:Nat):stE n d j i k = -(stE n d i j k):=by
  unfold stE
  cases h1:smH n d i with
  | true =>
    cases h2:smH n d j with
    | true=>rfl
    | false =>
      simp only[Bool.false_eq_true,if_true,if_false]
      split <;> omega
  | false =>
    cases h2:smH n d j with
    | true =>
      simp only[Bool.false_eq_true,if_true,if_false]
      split <;> omega
    | false =>
      simp only[Bool.false_eq_true,if_false]
      have ri:=smR_rt hS hi h1
      have rj:=smR_rt hS hj h2
      generalize smR n d i=x at *
      generalize smR n d j=y at *
      by_cases e:x=mnF y
      · have e2:y=mnF x:=by rw[e,mnF_mnF]
        rw[if_pos e2,if_pos e]
        split
        · rw[e,cr_minus2 hS rj (by omega),Int.neg_neg]
        · rfl
      · have e2 : ¬ y=mnF x:=fun h=>e (by rw[h,mnF_mnF])
        rw[if_neg e2,if_neg e,lA_comm (x:=y) (lenR_of hS rj ri)]
        split
        · split
          · exact nF_sw hS ri rj
          · rfl
        · rfl
theorem stE_same (hS:(tyS n d).isSome=true){i:Nat}(hi:i<smN n d)(k:Nat):stE n d i i k=0:=by
  have:=stE_anti hS hi hi k
  omega
theorem tr_lt {N i j k:Nat}(hi:i<N)(hj:j<N)(hk:k<N):(i*N+j)*N+k<N*N*N:=by
  have h1:=pair_lt hi hj
  have h2:(i*N+j+1)*N≤N*N*N:=Nat.mul_le_mul_right N h1
  rw[Nat.succ_mul] at h2
  omega
theorem tr_inj {N i j k a b c:Nat}(hj:j<N)(hk:k<N)(hb:b<N)(hc:c<N)(h:(i*N+j)*N+k=(a*N+b)*N+c):i=a∧j=b∧k=c:=by
  obtain⟨h1,h2⟩:=pair_inj hk hc h
  obtain⟨h3,h4⟩:=pair_inj hj hb h1
  exact⟨h3,h4,h2⟩
theorem tr_dec {N q:Nat}(h:q<N*N*N):∃ i j k,i<N∧j<N∧k<N∧q=(i*N+j)*N+k:=by
  have hN:0<N:=by
    rcases Nat.eq_zero_or_pos N with rfl | h0
    · simp at h
    · exact h0
  have h1:q / N<N*N:=Nat.div_lt_of_lt_mul (by rw[Nat.mul_comm];exact h)
  have h2:q / N / N<N:=Nat.div_lt_of_lt_mul h1
  refine⟨q / N / N,q / N%N,q%N,h2,Nat.mod_lt _ hN,Nat.mod_lt _ hN,?_⟩
  have e1:q / N / N*N+q / N%N=q / N:=by rw[Nat.mul_comm];exact Nat.div_add_mod _ _
  rw[e1,Nat.mul_comm]
  exact(Nat.div_add_mod _ _).symm
structure TabI (N:Nat)(F:Nat→Nat→Nat→Int)(D:Nat→Nat→Nat→Bool)(ys:List Int):Prop where
  len:ys.length=N*N*N
  get:∀ a b c,a<N→b<N→c<N→ys.getD ((a*N+b)*N+c) 0=if D a b c then F a b c else 0
variable {N:Nat}{F:Nat→Nat→Nat→Int}{D D':Nat→Nat→Nat→Bool}{ys zs:List Int}
theorem TabI.new:TabI N F (fun _ _ _=>false) (List.replicate (N*N*N) 0):=⟨by simp,fun a b c ha hb hc=>by simp[List.getD,tr_lt ha hb hc]⟩
theorem TabI.alter (h:TabI N F D ys)(hd:∀ a b c,a<N→b<N→c<N→D a b c=D' a b c∨F a b c=0):TabI N F D' ys:=⟨h.len,fun a b c ha hb hc=>by
  rw[h.get a b c ha hb hc]
  rcases hd a b c ha hb hc with e | e
  · rw[e]
  · rw[e,ite_self,ite_self]⟩
theorem TabI.set (h:TabI N F D ys){i j k:Nat}(hi:i<N)(hj:j<N)(hk:k<N){v:Int}(hv:v=F i j k):TabI N F (fun a b c=>D a b c || (decide (a=i)&&(decide (b=j)&&decide (c=k)))) (ys.set ((i*N+j)*N+k) v):=⟨by rw[List.length_set];exact h.len,fun a b c ha hb hc=>by
  by_cases e:(i*N+j)*N+k=(a*N+b)*N+c
  · obtain⟨rfl,rfl,rfl⟩:=tr_inj hj hk hb hc e
    have:=tr_lt hi hj hk
    rw[set_getD_eq (by rw[h.len];exact this),hv]
    simp
  · rw[set_getD_ne e,h.get a b c ha hb hc]
    have:(decide (a=i)&&(decide (b=j)&&decide (c=k)))=false:=by
      cases e2:(decide (a=i)&&(decide (b=j)&&decide (c=k))) with
      | false=>rfl
      | true =>
        simp only[Bool.and_eq_true,decide_eq_true_eq] at e2
        obtain⟨rfl,rfl,rfl⟩:=e2
        exact absurd rfl e
    rw[this,Bool.or_false]⟩
theorem TabI.all (h:TabI N F D ys)(g:TabI N F D' zs)(hd:∀ a b c,a<N→b<N→c<N→(D a b c=true∨F a b c=0)∧(D' a b c=true∨F a b c=0)):ys=zs:=ext_getD (by rw[h.len,g.len]) fun q hq=>by
  rw[h.len] at hq
  obtain⟨i,j,k,hi,hj,hk,rfl⟩:=tr_dec hq
  rw[h.get i j k hi hj hk,g.get i j k hi hj hk]
  obtain⟨a1,a2⟩:=hd i j k hi hj hk
  have e:∀ {b:Bool} {x:Int},b=true∨x=0→(if b then x else 0)=x:=fun {b x} h=>by
    rcases h with rfl | rfl
    · rfl
    · exact ite_self _
  rw[e a1,e a2]
def stT (n:Int)(d:List Int)(p:Int):List Int:=(List.range (smN n d*smN n d*smN n d)).map fun q=>stE n d (q / smN n d / smN n d) (q / smN n d%smN n d) (q%smN n d)%p
theorem stT_tab (p:Int):TabI (smN n d) (fun a b c=>stE n d a b c%p) (fun _ _ _=>true) (stT n d p):=⟨by simp[stT],fun a b c ha hb hc=>by
  have hq:=tr_lt ha hb hc
  have e:(stT n d p).getD ((a*smN n d+b)*smN n d+c) 0=stE n d (((a*smN n d+b)*smN n d+c) / smN n d / smN n d) (((a*smN n d+b)*smN n d+c) / smN n d%smN n d) (((a*smN n d+b)*smN n d+c)%smN n d)%p:=by simp[stT,List.getD,hq]
  have e1:((a*smN n d+b)*smN n d+c) / smN n d=a*smN n d+b:=by rw[Nat.mul_comm,Nat.mul_add_div (by omega),Nat.div_eq_of_lt hc];omega
  have e2:((a*smN n d+b)*smN n d+c)%smN n d=c:=by rw[Nat.mul_comm,Nat.mul_add_mod,Nat.mod_eq_of_lt hc]
  have e3:(a*smN n d+b) / smN n d=a:=by rw[Nat.mul_comm,Nat.mul_add_div (by omega),Nat.div_eq_of_lt hb];omega
  have e4:(a*smN n d+b)%smN n d=b:=by rw[Nat.mul_comm,Nat.mul_add_mod,Nat.mod_eq_of_lt hb]
  rw[e,e1,e2,e3,e4,if_pos rfl]⟩
def tbD (i j k a b c:Nat):Bool:=decide (max a b<i∨(max a b=i∧(min a b<j∨(min a b=j∧c<k))))
def TbI (n:Int)(d:List Int)(p:Int)(i j k:Nat)(ys:List Int):Prop:=TabI (smN n d) (fun a b c=>stE n d a b c%p) (tbD i j k) ys
variable {p:Int}{i j k:Nat}
theorem TbI.new:TbI n d p 0 0 0 (List.replicate (smN n d*smN n d*smN n d) 0):=(TabI.new (F:=fun a b c=>stE n d a b c%p)).alter fun a b c _ _ _ => .inl (decide_eq_false (by omega)).symm
theorem TbI.step (hS:(tyS n d).isSome=true)(h:TbI n d p i j k ys)(hi:i<smN n d)(hj:j<i)(hk:k<smN n d){v:Int}(hv:v=stE n d i j k%p) :
    TbI n d p i j (k+1) ((ys.set ((i*smN n d+j)*smN n d+k) v).set ((j*smN n d+i)*smN n d+k) ((0 - v)%p)):=by
  have hj':j<smN n d:=by omega
  have e:(0 - v)%p=stE n d j i k%p:=by
    rw[hv,stE_anti hS hi hj',Int.sub_emod 0 (stE n d i j k%p),Int.emod_emod,← Int.sub_emod,Int.zero_sub]
  have:=(TabI.set h hi hj' hk hv).set hj' hi hk (v:=(0 - v)%p) e
  refine this.alter fun a b c ha hb hc => .inl ?_
  simp only[tbD]
  rw[Bool.eq_iff_iff]
  simp only[Bool.or_eq_true,Bool.and_eq_true,decide_eq_true_eq]
  omega
theorem TbI.next (h:TbI n d p i j (smN n d) ys):TbI n d p i (j+1) 0 ys:=TabI.alter h fun a b c ha hb hc => .inl (decide_eq_decide.2 (by omega))
theorem TbI.row (hS:(tyS n d).isSome=true)(hi:i<smN n d)(h:TbI n d p i i 0 ys):TbI n d p (i+1) 0 0 ys:=TabI.alter h fun a b c ha hb hc=>by
  by_cases e:a=b
  · subst e
    exact .inr (by show stE n d a a c%p=0;rw[stE_same hS ha,Int.zero_emod])
  · exact .inl (decide_eq_decide.2 (by omega))
theorem TbI.end_ (h:TbI n d p (smN n d) 0 0 ys):ys=stT n d p:=TabI.all h (stT_tab p) fun a b c ha hb hc=>⟨.inl (decide_eq_true (by omega)),.inl rfl⟩
def rwF (n:Int)(d:List Int)(p:Int)(i j:Nat):List Int:=(List.range (smN n d)).map fun k=>stE n d i j k%p
theorem rwF_len (i j:Nat):(rwF n d p i j).length=smN n d:=by simp[rwF]
theorem rwF_get {i j k:Nat}(hk:k<smN n d):(rwF n d p i j).getD k 0=stE n d i j k%p:=by simp[rwF,List.getD,hk]
theorem rw_zero (h:∀ k,k<smN n d→stE n d i j k=0):List.replicate (smN n d) 0=rwF n d p i j:=ext_getD (by rw[rwF_len];simp) fun k hk=>by
  have hk':k<smN n d:=by simpa using hk
  rw[rwF_get hk',h k hk']
  simp[List.getD,hk']
theorem rw_one {q:Nat}{v:Int}(hq:q<smN n d)(h:∀ k,k<smN n d→stE n d i j k=if k=q then v else 0):(List.replicate (smN n d) 0).set q (v%p)=rwF n d p i j:=ext_getD (by rw[rwF_len];simp) fun k hk=>by
  have hk':k<smN n d:=by simpa using hk
  rw[rwF_get hk',h k hk']
  by_cases e:k=q
  · subst e
    rw[set_getD_eq (by simpa using hq),if_pos rfl]
  · rw[set_getD_ne (fun h=>e h.symm),if_neg e]
    simp[List.getD,hk']
end
end Go.Proofs.YtbmnnbglipkidaaGreatDoor
namespace Go.Proofs.YtbmnnbglipkidaaGreatDoor
set_option linter.unusedVariables false
set_option linter.unusedSimpArgs false
section
variable {n:Int}{d:List Int}{p:Int}{i j:Nat}
theorem rw_HH (h1:smH n d i=true)(h2:smH n d j=true):List.replicate (smN n d) 0=rwF n d p i j:=rw_zero fun k _=>by simp[stE,h1,h2]
theorem rw_Hx (hj:j<smN n d)(h1:smH n d i=true)(h2:smH n d j=false):(List.replicate (smN n d) 0).set j ((wtF n d (smR n d j)).getD (i - smM n d) 0%p)=rwF n d p i j:=rw_one hj fun k _=>by simp[stE,h1,h2]
theorem rw_xH (hi:i<smN n d)(h1:smH n d i=false)(h2:smH n d j=true):(List.replicate (smN n d) 0).set i ((0 - (wtF n d (smR n d i)).getD (j - smM n d) 0)%p)=rwF n d p i j:=by
  rw[Int.zero_sub]
  exact rw_one hi fun k _=>by simp[stE,h1,h2]
theorem l7I_lt (hS:(tyS n d).isSome=true){z:List Int}(hz:rtB (rSt n d) z=true):0≤l7I n (rSt n d) z∧l7I n (rSt n d) z<smN n d:=by
  have hcr:=(tyS_ok hS).1
  unfold l7I smN smM
  split
  · rename_i h0
    have hc:(rSt n d).contains z=true:=by rw[← plF_ge];exact decide_eq_true h0
    have:=(pl_root (contains_mem.1 hc)).1
    omega
  · rename_i h0
    have hm:mnF z∈rSt n d:=by
      rcases rt_or hz with h | h
      · exact absurd (plF_c (contains_mem.2 h)) h0
      · exact h
    obtain⟨h1,_,h3⟩:=pl_root hm
    rw[if_neg (by omega)]
    omega
theorem rw_N (hS:(tyS n d).isSome=true)(hi:i<smN n d)(hj:j<smN n d)(h1:smH n d i=false)(h2:smH n d j=false)(h3:smR n d i≠mnF (smR n d j))(h4:rtB (rSt n d) (lA (smR n d i) 1 (smR n d j))=true) :
    (List.replicate (smN n d) 0).set (l7I n (rSt n d) (lA (smR n d i) 1 (smR n d j))).toNat (nF n d (smR n d i) (smR n d j)%p)=rwF n d p i j:=by
  have hl:=l7I_lt hS h4
  refine rw_one (by omega) fun k _=>?_
  simp only[stE,h1,h2,h4,if_neg h3,Bool.false_eq_true,if_false,if_true]
  by_cases e:(k:Int)=l7I n (rSt n d) (lA (smR n d i) 1 (smR n d j))
  · rw[if_pos e,if_pos (by omega)]
  · rw[if_neg e,if_neg (by omega)]
theorem rw_no (h1:smH n d i=false)(h2:smH n d j=false)(h3:smR n d i≠mnF (smR n d j))(h4:rtB (rSt n d) (lA (smR n d i) 1 (smR n d j))=false):List.replicate (smN n d) 0=rwF n d p i j:=rw_zero fun k _=>by
  simp[stE,h1,h2,h4,if_neg h3]
def coR (n:Int)(d:List Int)(p:Int)(i:Nat)(t:Nat):List Int:=(List.range t).foldl (fun(o:List Int) (k:Nat)=>o.set (smM n d+k) ((crF n d (smR n d i)).getD k 0%p)) (List.replicate (smN n d) 0)
theorem coR_len (t:Nat):(coR n d p i t).length=smN n d:=by rw[coR,len_fold (fun o i=>by simp),List.length_replicate]
theorem coR_get:∀ {t:Nat},t≤n.toNat→∀ c,c<smN n d→(coR n d p i t).getD c 0=if smM n d≤c∧c<smM n d+t then(crF n d (smR n d i)).getD (c - smM n d) 0%p else 0
  | 0,_,c,hc=>by
    rw[if_neg (by omega)]
    simp[coR,List.getD,hc]
  | t+1,ht,c,hc=>by
    have e:coR n d p i (t+1)=(coR n d p i t).set (smM n d+t) ((crF n d (smR n d i)).getD t 0%p):=by rw[coR,foldl_succ];rfl
    rw[e]
    by_cases h:smM n d+t=c
    · subst h
      rw[set_getD_eq (by rw[coR_len];exact hc),if_pos (by omega),show smM n d+t - smM n d=t by omega]
    · rw[set_getD_ne h,coR_get (by omega) c hc]
      by_cases h2:smM n d≤c∧c<smM n d+t
      · rw[if_pos h2,if_pos (by omega)]
      · rw[if_neg h2,if_neg (by omega)]
theorem rw_co (h1:smH n d i=false)(h2:smH n d j=false)(h3:smR n d i=mnF (smR n d j)):coR n d p i n.toNat=rwF n d p i j:=ext_getD (by rw[rwF_len,coR_len]) fun k hk=>by
  rw[coR_len] at hk
  rw[rwF_get hk,coR_get (Nat.le_refl _) k hk]
  simp only[stE,h1,h2,if_pos h3,Bool.false_eq_true,if_false]
  by_cases h:smM n d≤k∧k<smM n d+n.toNat
  · rw[if_pos h,if_pos h]
  · rw[if_neg h,if_neg h,Int.zero_emod]
variable {u kk v t:Nat}{ys:List Int}
end
end Go.Proofs.YtbmnnbglipkidaaGreatDoor
