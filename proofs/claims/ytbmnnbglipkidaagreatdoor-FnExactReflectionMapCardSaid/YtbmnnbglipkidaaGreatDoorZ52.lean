/-
  Constants of roots and strings of roots: what the law on constants asks. No program is spoken of.
-/
import Derived.Test.YtbmnnbglipkidaaGreatDoorCnx
namespace Go.Proofs.YtbmnnbglipkidaaGreatDoor
set_option linter.unusedVariables false
set_option linter.unusedSimpArgs false
section
variable {n:Int}{d:List Int}
theorem dN (hS:(Ax n d).isSome=true){x y:List Int}(hx:rtB (rSt n d) x=true)(hy:rtB (rSt n d) y=true):nF n d y x = -(nF n d x y):=by
  by_cases h1:0<sP x
  · by_cases h2:0<sP y
    · by_cases hz:rtB (rSt n d) (lA x 1 y)=true
      · have ey:rtB (rSt n d) (lA y 1 x)=true:=by rw[Ct (Bm hS hy hx)];exact hz
        have D:=GD hS (CJ hS hx h1) (CJ hS hy h2) (CJ hS hz (by rw[MH hS hx hy];omega))
        rw[LD hS hz h1 h2,LD hS ey h2 h1,Ct (Bm hS hy hx),(LH hS D).2.2]
      · have hz0:rtB (rSt n d) (lA x 1 y)=false:=by simpa using hz
        rw[L2 hS hz0,L2 hS (by rw[Ct (Bm hS hy hx)];exact hz0)]
        rfl
    · rw[Qt hS hy hx h2 h1]
  · by_cases h2:0<sP y
    · rw[Qt hS hx hy h1 h2,Int.neg_neg]
    · have nx:=(CG hS hx h1).1
      have ny:=(CG hS hy h2).1
      have px:=BS hS nx
      have py:=BS hS ny
      rw[NM hS hx hy h1 h2,NM hS hy hx h2 h1]
      by_cases hz:rtB (rSt n d) (lA x 1 y)=true
      · have e1:rtB (rSt n d) (lA (Av x) 1 (Av y))=true:=by rw[Ev hS hx hy,B5];exact hz
        have e2:rtB (rSt n d) (lA (Av y) 1 (Av x))=true:=by rw[Ev hS hy hx,B5,Ct (Bm hS hy hx)];exact hz
        have D:=GD hS nx ny (CJ hS e1 (by rw[MH hS (Au nx) (Au ny)];omega))
        rw[LD hS e1 (by omega) (by omega),LD hS e2 (by omega) (by omega),Ev hS hy hx,Ev hS hx hy,Ct (Bm hS hy hx)]
        have:=(LH hS D).2.2
        rw[Ev hS hx hy] at this
        rw[this]
      · have hz0:rtB (rSt n d) (lA x 1 y)=false:=by simpa using hz
        rw[L2 hS (x:=Av x) (by rw[Ev hS hx hy,B5];exact hz0),L2 hS (x:=Av y) (by rw[Ev hS hy hx,B5,Ct (Bm hS hy hx)];exact hz0)]
        rfl
end
section
variable {n:Int}{d:List Int}
def smM (n:Int)(d:List Int):Nat:=(rSt n d).length
def smN (n:Int)(d:List Int):Nat:=2*smM n d+n.toNat
def BX (n:Int)(d:List Int)(i:Nat):Bool:=decide (smM n d≤i)&&decide (i<smM n d+n.toNat)
def smR (n:Int)(d:List Int)(i:Nat):List Int:=if i<smM n d then(rSt n d).getD i [] else Av ((rSt n d).getD (i - smM n d - n.toNat) [])
def DL (n:Int)(d:List Int)(i j k:Nat):Int :=
  if BX n d i then(if BX n d j then 0 else if k=j then(wtF n d (smR n d j)).getD (i - smM n d) 0 else 0)
  else if BX n d j then(if k=i then -((wtF n d (smR n d i)).getD (j - smM n d) 0) else 0)
  else if smR n d i=Av (smR n d j) then(if smM n d≤k∧k<smM n d+n.toNat then(crF n d (smR n d i)).getD (k - smM n d) 0 else 0)
  else if rtB (rSt n d) (lA (smR n d i) 1 (smR n d j))=true then(if (k:Int)=l7I n (rSt n d) (lA (smR n d i) 1 (smR n d j)) then nF n d (smR n d i) (smR n d j) else 0) else 0
theorem CI (hS:(Ax n d).isSome=true){i:Nat}(hi:i<smN n d)(hh:BX n d i=false):rtB (rSt n d) (smR n d i)=true:=by
  unfold smR
  unfold BX at hh
  unfold smN at hi
  by_cases h:i<smM n d
  · rw[if_pos h]
    exact Au (Bh h)
  · rw[if_neg h]
    rw[decide_eq_true (by omega),Bool.true_and] at hh
    have:=of_decide_eq_false hh
    exact B6 (Bh (by unfold smM at *;omega))
theorem MB (hS:(Ax n d).isSome=true){x:List Int}(hx:rtB (rSt n d) x=true){i:Nat}(hi:i<n.toNat):(crF n d x).getD i 0=(x.getD i 0*(A3 n d).getD i 0).tdiv (hn n d x) ∧ -360≤(crF n d x).getD i 0∧(crF n d x).getD i 0≤360:=by
  obtain⟨x1,x2,x3⟩:=Aw hS hx
  have hl:=(PG hS).len i
  have h1:=x2 i
  have h3:=A9 (a:=x.getD i 0) (b:=(A3 n d).getD i 0) (A:=10) (B:=36) (by omega) (by omega)
  have h4:=C4 (a:=x.getD i 0*(A3 n d).getD i 0) (MK hS hx) (A:=360) (by omega)
  have e:(crF n d x).getD i 0=S6 n d x i:=by simp[crF,List.getD,show i<x.length by omega]
  rw[e,S6,Fz hS hx,Aj (x:=x.getD i 0*(A3 n d).getD i 0) (by omega) (by omega),Aj (by omega) (by omega)]
  exact⟨rfl,h4⟩
theorem L7 (hS:(Ax n d).isSome=true){x:List Int}(hx:rtB (rSt n d) x=true){i:Nat}(hi:i<n.toNat):(crF n d (Av x)).getD i 0 = -((crF n d x).getD i 0):=by
  rw[(MB hS (KK hx) hi).1,(MB hS hx hi).1,Bw,L0,Int.neg_mul,Int.neg_tdiv]
theorem CY (hS:(Ax n d).isSome=true){i j:Nat}(hi:i<smN n d)(hj:j<smN n d)(k:Nat):DL n d j i k = -(DL n d i j k):=by
  unfold DL
  cases h1:BX n d i with
  | true =>
    cases h2:BX n d j with
    | true=>rfl
    | false =>
      simp only[Bool.false_eq_true,if_true,if_false]
      split <;> omega
  | false =>
    cases h2:BX n d j with
    | true =>
      simp only[Bool.false_eq_true,if_true,if_false]
      split <;> omega
    | false =>
      simp only[Bool.false_eq_true,if_false]
      have ri:=CI hS hi h1
      have rj:=CI hS hj h2
      generalize smR n d i=x at *
      generalize smR n d j=y at *
      by_cases e:x=Av y
      · have e2:y=Av x:=by rw[e,Fh]
        rw[if_pos e2,if_pos e]
        split
        · rw[e,L7 hS rj (by omega),Int.neg_neg]
        · rfl
      · have e2 : ¬ y=Av x:=fun h=>e (by rw[h,Fh])
        rw[if_neg e2,if_neg e,Ct (x:=y) (Bm hS rj ri)]
        split
        · split
          · exact dN hS ri rj
          · rfl
        · rfl
theorem Ns (hS:(Ax n d).isSome=true){i:Nat}(hi:i<smN n d)(k:Nat):DL n d i i k=0:=by
  have:=CY hS hi hi k
  omega
theorem QJ {N i j k:Nat}(hi:i<N)(hj:j<N)(hk:k<N):(i*N+j)*N+k<N*N*N:=by
  have h1:=Nh hi hj
  have h2:(i*N+j+1)*N≤N*N*N:=Nat.mul_le_mul_right N h1
  rw[Nat.succ_mul] at h2
  omega
theorem c9 {N i j k a b c:Nat}(hj:j<N)(hk:k<N)(hb:b<N)(hc:c<N)(h:(i*N+j)*N+k=(a*N+b)*N+c):i=a∧j=b∧k=c:=by
  obtain⟨h1,h2⟩:=Kb hk hc h
  obtain⟨h3,h4⟩:=Kb hj hb h1
  exact⟨h3,h4,h2⟩
theorem aQ {N q:Nat}(h:q<N*N*N):∃ i j k,i<N∧j<N∧k<N∧q=(i*N+j)*N+k:=by
  have hN:0<N:=by
    rcases Nat.eq_zero_or_pos N with rfl | h0
    · simp at h
    · exact h0
  have h1:q / N<N*N:=Nat.div_lt_of_lt_mul (by rw[Nat.mul_comm];exact h)
  have h2:q / N / N<N:=Nat.div_lt_of_lt_mul h1
  refine⟨q / N / N,q / N%N,q%N,h2,Nat.mod_lt _ hN,Nat.mod_lt _ hN,?_⟩
  have e1:q / N / N*N+q / N%N=q / N:=by rw[Nat.mul_comm];exact Nat.div_add_mod _ _
  rw[e1,Nat.mul_comm]
  exact(Nat.div_add_mod _ _).symm
structure TabI (N:Nat)(F:Nat→Nat→Nat→Int)(D:Nat→Nat→Nat→Bool)(ys:List Int):Prop where
  len:ys.length=N*N*N
  get:∀ a b c,a<N→b<N→c<N→ys.getD ((a*N+b)*N+c) 0=if D a b c then F a b c else 0
variable {N:Nat}{F:Nat→Nat→Nat→Int}{D D':Nat→Nat→Nat→Bool}{ys zs:List Int}
theorem TabI.new:TabI N F (fun _ _ _=>false) (List.replicate (N*N*N) 0):=⟨by simp,fun a b c ha hb hc=>by simp[List.getD,QJ ha hb hc]⟩
theorem TabI.alter (h:TabI N F D ys)(hd:∀ a b c,a<N→b<N→c<N→D a b c=D' a b c∨F a b c=0):TabI N F D' ys:=⟨h.len,fun a b c ha hb hc=>by
  rw[h.get a b c ha hb hc]
  rcases hd a b c ha hb hc with e | e
  · rw[e]
  · rw[e,ite_self,ite_self]⟩
theorem TabI.set (h:TabI N F D ys){i j k:Nat}(hi:i<N)(hj:j<N)(hk:k<N){v:Int}(hv:v=F i j k):TabI N F (fun a b c=>D a b c || (decide (a=i)&&(decide (b=j)&&decide (c=k)))) (ys.set ((i*N+j)*N+k) v):=⟨by rw[List.length_set];exact h.len,fun a b c ha hb hc=>by
  by_cases e:(i*N+j)*N+k=(a*N+b)*N+c
  · obtain⟨rfl,rfl,rfl⟩:=c9 hj hk hb hc e
    have:=QJ hi hj hk
    rw[BE (by rw[h.len];exact this),hv]
    simp
  · rw[Br e,h.get a b c ha hb hc]
    have:(decide (a=i)&&(decide (b=j)&&decide (c=k)))=false:=by
      cases e2:(decide (a=i)&&(decide (b=j)&&decide (c=k))) with
      | false=>rfl
      | true =>
        simp only[Bool.and_eq_true,decide_eq_true_eq] at e2
        obtain⟨rfl,rfl,rfl⟩:=e2
        exact absurd rfl e
    rw[this,Bool.or_false]⟩
theorem TabI.all (h:TabI N F D ys)(g:TabI N F D' zs)(hd:∀ a b c,a<N→b<N→c<N→(D a b c=true∨F a b c=0)∧(D' a b c=true∨F a b c=0)):ys=zs:=A0 (by rw[h.len,g.len]) fun q hq=>by
  rw[h.len] at hq
  obtain⟨i,j,k,hi,hj,hk,rfl⟩:=aQ hq
  rw[h.get i j k hi hj hk,g.get i j k hi hj hk]
  obtain⟨a1,a2⟩:=hd i j k hi hj hk
  have e:∀ {b:Bool} {x:Int},b=true∨x=0→(if b then x else 0)=x:=fun {b x} h=>by
    rcases h with rfl | rfl
    · rfl
    · exact ite_self _
  rw[e a1,e a2]
def EG (n:Int)(d:List Int)(p:Int):List Int:=(List.range (smN n d*smN n d*smN n d)).map fun q=>DL n d (q / smN n d / smN n d) (q / smN n d%smN n d) (q%smN n d)%p
theorem Mv (p:Int):TabI (smN n d) (fun a b c=>DL n d a b c%p) (fun _ _ _=>true) (EG n d p):=⟨by simp[EG],fun a b c ha hb hc=>by
  have hq:=QJ ha hb hc
  have e:(EG n d p).getD ((a*smN n d+b)*smN n d+c) 0=DL n d (((a*smN n d+b)*smN n d+c) / smN n d / smN n d) (((a*smN n d+b)*smN n d+c) / smN n d%smN n d) (((a*smN n d+b)*smN n d+c)%smN n d)%p:=by simp[EG,List.getD,hq]
  have e1:((a*smN n d+b)*smN n d+c) / smN n d=a*smN n d+b:=by rw[Nat.mul_comm,Nat.mul_add_div (by omega),Nat.div_eq_of_lt hc];omega
  have e2:((a*smN n d+b)*smN n d+c)%smN n d=c:=by rw[Nat.mul_comm,Nat.mul_add_mod,Nat.mod_eq_of_lt hc]
  have e3:(a*smN n d+b) / smN n d=a:=by rw[Nat.mul_comm,Nat.mul_add_div (by omega),Nat.div_eq_of_lt hb];omega
  have e4:(a*smN n d+b)%smN n d=b:=by rw[Nat.mul_comm,Nat.mul_add_mod,Nat.mod_eq_of_lt hb]
  rw[e,e1,e2,e3,e4,if_pos rfl]⟩
def gJ (i j k a b c:Nat):Bool:=decide (max a b<i∨(max a b=i∧(min a b<j∨(min a b=j∧c<k))))
def KF (n:Int)(d:List Int)(p:Int)(i j k:Nat)(ys:List Int):Prop:=TabI (smN n d) (fun a b c=>DL n d a b c%p) (gJ i j k) ys
variable {p:Int}{i j k:Nat}
theorem KF.new:KF n d p 0 0 0 (List.replicate (smN n d*smN n d*smN n d) 0):=(TabI.new (F:=fun a b c=>DL n d a b c%p)).alter fun a b c _ _ _ => .inl (decide_eq_false (by omega)).symm
theorem KF.step (hS:(Ax n d).isSome=true)(h:KF n d p i j k ys)(hi:i<smN n d)(hj:j<i)(hk:k<smN n d){v:Int}(hv:v=DL n d i j k%p) :
    KF n d p i j (k+1) ((ys.set ((i*smN n d+j)*smN n d+k) v).set ((j*smN n d+i)*smN n d+k) ((0 - v)%p)):=by
  have hj':j<smN n d:=by omega
  have e:(0 - v)%p=DL n d j i k%p:=by
    rw[hv,CY hS hi hj',Int.sub_emod 0 (DL n d i j k%p),Int.emod_emod,← Int.sub_emod,Int.zero_sub]
  have:=(TabI.set h hi hj' hk hv).set hj' hi hk (v:=(0 - v)%p) e
  refine this.alter fun a b c ha hb hc => .inl ?_
  simp only[gJ]
  rw[Bool.eq_iff_iff]
  simp only[Bool.or_eq_true,Bool.and_eq_true,decide_eq_true_eq]
  omega
theorem KF.next (h:KF n d p i j (smN n d) ys):KF n d p i (j+1) 0 ys:=TabI.alter h fun a b c ha hb hc => .inl (decide_eq_decide.2 (by omega))
theorem KF.row (hS:(Ax n d).isSome=true)(hi:i<smN n d)(h:KF n d p i i 0 ys):KF n d p (i+1) 0 0 ys:=TabI.alter h fun a b c ha hb hc=>by
  by_cases e:a=b
  · subst e
    exact .inr (by show DL n d a a c%p=0;rw[Ns hS ha,Int.zero_emod])
  · exact .inl (decide_eq_decide.2 (by omega))
theorem KF.end_ (h:KF n d p (smN n d) 0 0 ys):ys=EG n d p:=TabI.all h (Mv p) fun a b c ha hb hc=>⟨.inl (decide_eq_true (by omega)),.inl rfl⟩
def rwF (n:Int)(d:List Int)(p:Int)(i j:Nat):List Int:=(List.range (smN n d)).map fun k=>DL n d i j k%p
theorem F5 (i j:Nat):(rwF n d p i j).length=smN n d:=by simp[rwF]
theorem Gm {i j k:Nat}(hk:k<smN n d):(rwF n d p i j).getD k 0=DL n d i j k%p:=by simp[rwF,List.getD,hk]
theorem QL (h:∀ k,k<smN n d→DL n d i j k=0):List.replicate (smN n d) 0=rwF n d p i j:=A0 (by rw[F5];simp) fun k hk=>by
  have hk':k<smN n d:=by simpa using hk
  rw[Gm hk',h k hk']
  simp[List.getD,hk']
theorem Po {q:Nat}{v:Int}(hq:q<smN n d)(h:∀ k,k<smN n d→DL n d i j k=if k=q then v else 0):(List.replicate (smN n d) 0).set q (v%p)=rwF n d p i j:=A0 (by rw[F5];simp) fun k hk=>by
  have hk':k<smN n d:=by simpa using hk
  rw[Gm hk',h k hk']
  by_cases e:k=q
  · subst e
    rw[BE (by simpa using hq),if_pos rfl]
  · rw[Br (fun h=>e h.symm),if_neg e]
    simp[List.getD,hk']
end
section
variable {n:Int}{d:List Int}{p:Int}{i j:Nat}
theorem rw_HH (h1:BX n d i=true)(h2:BX n d j=true):List.replicate (smN n d) 0=rwF n d p i j:=QL fun k _=>by simp[DL,h1,h2]
theorem rw_Hx (hj:j<smN n d)(h1:BX n d i=true)(h2:BX n d j=false):(List.replicate (smN n d) 0).set j ((wtF n d (smR n d j)).getD (i - smM n d) 0%p)=rwF n d p i j:=Po hj fun k _=>by simp[DL,h1,h2]
theorem rw_xH (hi:i<smN n d)(h1:BX n d i=false)(h2:BX n d j=true):(List.replicate (smN n d) 0).set i ((0 - (wtF n d (smR n d i)).getD (j - smM n d) 0)%p)=rwF n d p i j:=by
  rw[Int.zero_sub]
  exact Po hi fun k _=>by simp[DL,h1,h2]
theorem KG (hS:(Ax n d).isSome=true){z:List Int}(hz:rtB (rSt n d) z=true):0≤l7I n (rSt n d) z∧l7I n (rSt n d) z<smN n d:=by
  have hcr:=(AB hS).1
  unfold l7I smN smM
  split
  · rename_i h0
    have hc:(rSt n d).contains z=true:=by rw[← E3];exact decide_eq_true h0
    have:=(DQ (AG.1 hc)).1
    omega
  · rename_i h0
    have hm:Av z∈rSt n d:=by
      rcases rt_or hz with h | h
      · exact absurd (N2 (AG.2 h)) h0
      · exact h
    obtain⟨h1,_,h3⟩:=DQ hm
    rw[if_neg (by omega)]
    omega
theorem gq (hS:(Ax n d).isSome=true)(hi:i<smN n d)(hj:j<smN n d)(h1:BX n d i=false)(h2:BX n d j=false)(h3:smR n d i≠Av (smR n d j))(h4:rtB (rSt n d) (lA (smR n d i) 1 (smR n d j))=true) :
    (List.replicate (smN n d) 0).set (l7I n (rSt n d) (lA (smR n d i) 1 (smR n d j))).toNat (nF n d (smR n d i) (smR n d j)%p)=rwF n d p i j:=by
  have hl:=KG hS h4
  refine Po (by omega) fun k _=>?_
  simp only[DL,h1,h2,h4,if_neg h3,Bool.false_eq_true,if_false,if_true]
  by_cases e:(k:Int)=l7I n (rSt n d) (lA (smR n d i) 1 (smR n d j))
  · rw[if_pos e,if_pos (by omega)]
  · rw[if_neg e,if_neg (by omega)]
theorem fw (h1:BX n d i=false)(h2:BX n d j=false)(h3:smR n d i≠Av (smR n d j))(h4:rtB (rSt n d) (lA (smR n d i) 1 (smR n d j))=false):List.replicate (smN n d) 0=rwF n d p i j:=QL fun k _=>by
  simp[DL,h1,h2,h4,if_neg h3]
def OJ (n:Int)(d:List Int)(p:Int)(i:Nat)(t:Nat):List Int:=(List.range t).foldl (fun(o:List Int) (k:Nat)=>o.set (smM n d+k) ((crF n d (smR n d i)).getD k 0%p)) (List.replicate (smN n d) 0)
theorem Gp (t:Nat):(OJ n d p i t).length=smN n d:=by rw[OJ,Co (fun o i=>by simp),List.length_replicate]
theorem Qb:∀ {t:Nat},t≤n.toNat→∀ c,c<smN n d→(OJ n d p i t).getD c 0=if smM n d≤c∧c<smM n d+t then(crF n d (smR n d i)).getD (c - smM n d) 0%p else 0
  | 0,_,c,hc=>by
    rw[if_neg (by omega)]
    simp[OJ,List.getD,hc]
  | t+1,ht,c,hc=>by
    have e:OJ n d p i (t+1)=(OJ n d p i t).set (smM n d+t) ((crF n d (smR n d i)).getD t 0%p):=by rw[OJ,A6];rfl
    rw[e]
    by_cases h:smM n d+t=c
    · subst h
      rw[BE (by rw[Gp];exact hc),if_pos (by omega),show smM n d+t - smM n d=t by omega]
    · rw[Br h,Qb (by omega) c hc]
      by_cases h2:smM n d≤c∧c<smM n d+t
      · rw[if_pos h2,if_pos (by omega)]
      · rw[if_neg h2,if_neg (by omega)]
theorem fN (h1:BX n d i=false)(h2:BX n d j=false)(h3:smR n d i=Av (smR n d j)):OJ n d p i n.toNat=rwF n d p i j:=A0 (by rw[F5,Gp]) fun k hk=>by
  rw[Gp] at hk
  rw[Gm hk,Qb (Nat.le_refl _) k hk]
  simp only[DL,h1,h2,if_pos h3,Bool.false_eq_true,if_false]
  by_cases h:smM n d≤k∧k<smM n d+n.toNat
  · rw[if_pos h,if_pos h]
  · rw[if_neg h,if_neg h,Int.zero_emod]
def spI (n:Int)(d:List Int)(u:Nat):Nat:=if u<smM n d then u else u+n.toNat
def Ek (n:Int)(d:List Int)(i:Nat):Nat:=if i<smM n d then i else i - n.toNat
def Az (n:Int)(d:List Int):List (List Int):=rSt n d++(rSt n d).map Av
theorem Ff {u:Nat}(hu:u<2*smM n d):(Az n d).getD u []=smR n d (spI n d u):=by
  unfold smR spI Az smM at *
  by_cases h:u<(rSt n d).length
  · rw[if_pos h,if_pos h]
    simp[List.getD,List.getElem?_append_left h]
  · rw[if_neg h,if_neg (by omega),show u+n.toNat - (rSt n d).length - n.toNat=u - (rSt n d).length by omega]
    have h2:u - (rSt n d).length<(rSt n d).length:=by omega
    simp[List.getD,List.getElem?_append_right (Nat.le_of_not_lt h),h2]
theorem Mb {u:Nat}:BX n d (spI n d u)=false:=by
  unfold BX spI
  by_cases h:u<smM n d
  · rw[if_pos h,decide_eq_false (by omega)]
    rfl
  · rw[if_neg h,decide_eq_false (p:=u+n.toNat<smM n d+n.toNat) (by omega),Bool.and_false]
theorem CD {u:Nat}(hu:u<2*smM n d):spI n d u<smN n d:=by
  unfold spI smN
  split <;> omega
theorem VS {u:Nat}:Ek n d (spI n d u)=u:=by
  unfold Ek spI
  by_cases h:u<smM n d
  · rw[if_pos h,if_pos h]
  · rw[if_neg h,if_neg (by omega)]
    omega
theorem FG {i:Nat}(hh:BX n d i=false):spI n d (Ek n d i)=i:=by
  unfold BX at hh
  unfold Ek spI
  by_cases h:i<smM n d
  · rw[if_pos h,if_pos h]
  · rw[decide_eq_true (by omega),Bool.true_and] at hh
    have:=of_decide_eq_false hh
    rw[if_neg h,if_neg (by omega)]
    omega
theorem PI {i:Nat}(hi:i<smN n d)(hh:BX n d i=false):Ek n d i<2*smM n d:=by
  unfold BX at hh
  unfold smN at hi
  unfold Ek
  by_cases h:i<smM n d
  · rw[if_pos h];omega
  · rw[decide_eq_true (by omega),Bool.true_and] at hh
    have:=of_decide_eq_false hh
    rw[if_neg h];omega
theorem Q9 (hS:(Ax n d).isSome=true){u:Nat}(hu:u<2*smM n d):l7I n (rSt n d) ((Az n d).getD u [])=(spI n d u:Nat):=by
  have hcr:=(AB hS).1
  have hnd:=(rtOk hS).snod
  have hI:spI n d u=if u<smM n d then u else u+n.toNat:=rfl
  rw[Ff hu]
  by_cases h:u<smM n d
  · have e:smR n d (spI n d u)=(rSt n d).getD u []:=by rw[hI,if_pos h,smR,if_pos h]
    rw[e,l7I,GJ hnd h,if_pos (by omega),hI,if_pos h]
  · have h2:u - smM n d<(rSt n d).length:=by unfold smM at *;omega
    have hm:=Bh h2
    have h3:(rSt n d).contains (Av ((rSt n d).getD (u - smM n d) []))=false:=by
      cases e:(rSt n d).contains (Av ((rSt n d).getD (u - smM n d) [])) with
      | false=>rfl
      | true=>exact absurd (AG.1 e) (bn hS hm)
    have h4:=OE h3
    have e:smR n d (spI n d u)=Av ((rSt n d).getD (u - smM n d) []):=by rw[hI,if_neg h,smR,if_neg (by omega),show u+n.toNat - smM n d - n.toNat=u - smM n d by omega]
    rw[e,l7I,if_neg (by omega),Fh,GJ hnd h2,if_neg (by omega),hI,if_neg h]
    unfold smM at *
    omega
def Xc (n:Int)(d:List Int)(u kk v t a b c:Nat):Bool :=
  if BX n d a then(if BX n d b then true else decide (Ek n d b<u∨(Ek n d b=u∧a - smM n d<kk)))
  else if BX n d b then decide (Ek n d a<u∨(Ek n d a=u∧b - smM n d<kk))
  else decide (max (Ek n d a) (Ek n d b)<u∨(max (Ek n d a) (Ek n d b)=u∧(min (Ek n d a) (Ek n d b)<v∨(min (Ek n d a) (Ek n d b)=v∧c<t))))
def SpI (n:Int)(d:List Int)(p:Int)(u kk v t:Nat)(ys:List Int):Prop:=TabI (smN n d) (fun a b c=>DL n d a b c%p) (Xc n d u kk v t) ys
variable {u kk v t:Nat}{ys:List Int}
theorem SpI.new:SpI n d p 0 0 0 0 (List.replicate (smN n d*smN n d*smN n d) 0):=(TabI.new (F:=fun a b c=>DL n d a b c%p)).alter fun a b c _ _ _=>by
  unfold Xc
  cases h1:BX n d a with
  | true =>
    cases h2:BX n d b with
    | true=>exact .inr (by simp[DL,h1,h2])
    | false=>exact .inl (by simp)
  | false =>
    cases h2:BX n d b with
    | true=>exact .inl (by simp)
    | false=>exact .inl (by simp)
theorem ZB {e q x:Int}(hq:q = -e):(0 - e)%x=q%x:=by rw[hq,Int.zero_sub]
theorem SpI.wt (hS:(Ax n d).isSome=true)(h:SpI n d p u kk 0 0 ys)(hu:u<2*smM n d)(hk:kk<n.toNat){w:Int}(hw:w=(wtF n d ((Az n d).getD u [])).getD kk 0) :
    SpI n d p u (kk+1) 0 0 ((ys.set (((smM n d+kk)*smN n d+spI n d u)*smN n d+spI n d u) (w%p)).set ((spI n d u*smN n d+(smM n d+kk))*smN n d+spI n d u) ((0 - w)%p)):=by
  have hi:=CD hu
  have hI:=Mb (n:=n) (d:=d) (u:=u)
  have hP:=VS (n:=n) (d:=d) (u:=u)
  have hh:smM n d+kk<smN n d:=by unfold smN;omega
  have hH:BX n d (smM n d+kk)=true:=by unfold BX;rw[decide_eq_true (by omega),decide_eq_true (by omega)];rfl
  rw[Ff hu] at hw
  have e1:DL n d (smM n d+kk) (spI n d u) (spI n d u)=w:=by simp[DL,hH,hI,hw]
  have e2:=CY hS hh hi (spI n d u)
  have g:=(TabI.set h hh hi hi (v:=w%p) (by rw[← e1])).set hi hh hi (v:=(0 - w)%p) (ZB (by rw[e2,e1]))
  refine g.alter fun a b c ha hb hc=>?_
  simp only[Xc]
  cases h1:BX n d a with
  | true =>
    cases h2:BX n d b with
    | true=>exact .inl (by simp)
    | false =>
      have hb2:=FG h2
      by_cases e:a=smM n d+kk∧b=spI n d u
      · obtain⟨rfl,rfl⟩:=e
        by_cases e3:c=spI n d u
        · subst e3
          exact .inl (by simp[hP])
        · exact .inr (by simp[DL,hH,hI,e3])
      · refine .inl ?_
        have hba : ¬ (a=spI n d u∧b=smM n d+kk):=fun⟨q1,_⟩=>by rw[q1,hI] at h1;cases h1
        unfold BX at h1
        simp only[Bool.and_eq_true,decide_eq_true_eq] at h1
        rw[Bool.eq_iff_iff]
        simp only[if_true,Bool.false_eq_true,if_false,Bool.or_eq_true,Bool.and_eq_true,decide_eq_true_eq]
        constructor
        · rintro((q | ⟨q1,q2,q3⟩) | ⟨q1,q2,q3⟩)
          · omega
          · exact absurd ⟨q1,q2⟩ e
          · exact absurd ⟨q1,q2⟩ hba
        · rintro(q | ⟨q1,q2⟩)
          · exact .inl (.inl (.inl q))
          · by_cases q3:a - smM n d<kk
            · exact .inl (.inl (.inr ⟨q1,q3⟩))
            · exact absurd ⟨by omega,by rw[← hb2,q1]⟩ e
  | false =>
    cases h2:BX n d b with
    | true =>
      have ha2:=FG h1
      by_cases e:b=smM n d+kk∧a=spI n d u
      · obtain⟨rfl,rfl⟩:=e
        by_cases e3:c=spI n d u
        · subst e3
          exact .inl (by simp[hP])
        · exact .inr (by simp[DL,hH,hI,e3])
      · refine .inl ?_
        have hba : ¬ (a=smM n d+kk∧b=spI n d u):=fun⟨q1,_⟩=>by rw[q1,hH] at h1;cases h1
        unfold BX at h2
        simp only[Bool.and_eq_true,decide_eq_true_eq] at h2
        rw[Bool.eq_iff_iff]
        simp only[if_true,Bool.false_eq_true,if_false,Bool.or_eq_true,Bool.and_eq_true,decide_eq_true_eq]
        constructor
        · rintro((q | ⟨q1,q2,q3⟩) | ⟨q1,q2,q3⟩)
          · omega
          · exact absurd ⟨q1,q2⟩ hba
          · exact absurd ⟨q2,q1⟩ e
        · rintro(q | ⟨q1,q2⟩)
          · exact .inl (.inl (.inl q))
          · by_cases q3:b - smM n d<kk
            · exact .inl (.inl (.inr ⟨q1,q3⟩))
            · exact absurd ⟨by omega,by rw[← ha2,q1]⟩ e
    | false =>
      refine .inl ?_
      have q1 : ¬ a=smM n d+kk:=fun q=>by rw[q,hH] at h1;cases h1
      have q2 : ¬ b=smM n d+kk:=fun q=>by rw[q,hH] at h2;cases h2
      simp[q1,q2]
theorem TJ (hS:(Ax n d).isSome=true)(hu:u<2*smM n d)(hv:v<u){t t':Nat}{c0:Nat}(hc0:c0<smN n d)(h:SpI n d p u n.toNat v t ys){w1 w2:Int}(hw1:w1=DL n d (spI n d u) (spI n d v) c0%p)(hw2:w2=DL n d (spI n d v) (spI n d u) c0%p)
    (hz:∀ c,c<smN n d→(c<t'↔(c<t∨c=c0))∨DL n d (spI n d u) (spI n d v) c=0) :
    SpI n d p u n.toNat v t' ((ys.set ((spI n d u*smN n d+spI n d v)*smN n d+c0) w1).set ((spI n d v*smN n d+spI n d u)*smN n d+c0) w2) ∧
    SpI n d p u n.toNat v t' ((ys.set ((spI n d v*smN n d+spI n d u)*smN n d+c0) w2).set ((spI n d u*smN n d+spI n d v)*smN n d+c0) w1):=by
  have hi:=CD (n:=n) (d:=d) hu
  have hj:=CD (n:=n) (d:=d) (u:=v) (by omega)
  have hIu:=Mb (n:=n) (d:=d) (u:=u)
  have hIv:=Mb (n:=n) (d:=d) (u:=v)
  have hPu:=VS (n:=n) (d:=d) (u:=u)
  have hPv:=VS (n:=n) (d:=d) (u:=v)
  have anti:=fun c=>CY hS hi hj c
  have core:∀ {D:Nat→Nat→Nat→Bool},(∀ a b c,D a b c=(Xc n d u n.toNat v t a b c || (decide (a=spI n d u)&&(decide (b=spI n d v)&&decide (c=c0))) || (decide (a=spI n d v)&&(decide (b=spI n d u)&&decide (c=c0))))) →
      ∀ a b c,a<smN n d→b<smN n d→c<smN n d→D a b c=Xc n d u n.toNat v t' a b c∨DL n d a b c%p=0:=fun {D} hD a b c ha hb hc=>by
    rw[hD]
    simp only[Xc]
    cases h1:BX n d a with
    | true =>
      have q1 : ¬ a=spI n d u:=fun q=>by rw[q,hIu] at h1;cases h1
      have q2 : ¬ a=spI n d v:=fun q=>by rw[q,hIv] at h1;cases h1
      exact .inl (by simp[q1,q2])
    | false =>
      cases h2:BX n d b with
      | true =>
        have q1 : ¬ b=spI n d u:=fun q=>by rw[q,hIu] at h2;cases h2
        have q2 : ¬ b=spI n d v:=fun q=>by rw[q,hIv] at h2;cases h2
        exact .inl (by simp[q1,q2])
      | false =>
        have ha2:=FG h1
        have hb2:=FG h2
        have key:(a=spI n d u↔Ek n d a=u)∧(a=spI n d v↔Ek n d a=v)∧(b=spI n d u↔Ek n d b=u)∧(b=spI n d v↔Ek n d b=v):=by
          refine⟨⟨fun q=>by rw[q,hPu],fun q=>by rw[← q,ha2]⟩,⟨fun q=>by rw[q,hPv],fun q=>by rw[← q,ha2]⟩,⟨fun q=>by rw[q,hPu],fun q=>by rw[← q,hb2]⟩,⟨fun q=>by rw[q,hPv],fun q=>by rw[← q,hb2]⟩⟩
        obtain⟨k1,k2,k3,k4⟩:=key
        have hE:DL n d (spI n d u) (spI n d v) c=0→(Ek n d a=u∧Ek n d b=v)∨(Ek n d a=v∧Ek n d b=u)→DL n d a b c%p=0:=fun h0 hq=>by
          rcases hq with⟨q1,q2⟩ | ⟨q1,q2⟩
          · rw[k1.2 q1,k4.2 q2,h0,Int.zero_emod]
          · rw[k2.2 q1,k3.2 q2,anti,h0]
            rfl
        rcases hz c hc with hq | hq
        · refine .inl ?_
          rw[Bool.eq_iff_iff]
          simp only[Bool.false_eq_true,if_false,Bool.or_eq_true,Bool.and_eq_true,decide_eq_true_eq,k1,k2,k3,k4]
          omega
        · by_cases hab:(Ek n d a=u∧Ek n d b=v)∨(Ek n d a=v∧Ek n d b=u)
          · exact .inr (hE hq hab)
          · refine .inl ?_
            rw[Bool.eq_iff_iff]
            simp only[Bool.false_eq_true,if_false,Bool.or_eq_true,Bool.and_eq_true,decide_eq_true_eq,k1,k2,k3,k4]
            omega
  refine⟨((TabI.set h hi hj hc0 hw1).set hj hi hc0 hw2).alter (core fun a b c=>rfl),((TabI.set h hj hi hc0 hw2).set hi hj hc0 hw1).alter (core fun a b c=>?_)⟩
  rw[Bool.or_assoc,Bool.or_assoc]
  congr 1
  exact Bool.or_comm _ _
theorem SpI.skip (hS:(Ax n d).isSome=true)(h:SpI n d p u kk v t ys)(hu:u<2*smM n d)(hv:v<u)(h0:∀ c,c<smN n d→t≤c→DL n d (spI n d u) (spI n d v) c=0):SpI n d p u kk (v+1) 0 ys:=TabI.alter h fun a b c ha hb hc=>by
  have hi:=CD (n:=n) (d:=d) hu
  have hj:=CD (n:=n) (d:=d) (u:=v) (by omega)
  have anti:=fun c=>CY hS hi hj c
  simp only[Xc]
  cases h1:BX n d a with
  | true=>exact .inl (by simp)
  | false =>
    cases h2:BX n d b with
    | true=>exact .inl (by simp)
    | false =>
      have ha2:=FG h1
      have hb2:=FG h2
      by_cases hab:((Ek n d a=u∧Ek n d b=v)∨(Ek n d a=v∧Ek n d b=u))∧t≤c
      · refine .inr ?_
        obtain⟨⟨q1,q2⟩ | ⟨q1,q2⟩,hc2⟩:=hab
        · rw[← ha2,← hb2,q1,q2,h0 c hc hc2,Int.zero_emod]
        · rw[← ha2,← hb2,q1,q2,anti,h0 c hc hc2]
          rfl
      · refine .inl ?_
        rw[Bool.eq_iff_iff]
        simp only[Bool.false_eq_true,if_false,decide_eq_true_eq]
        omega
theorem SpI.up (hS:(Ax n d).isSome=true)(h:SpI n d p u n.toNat u 0 ys)(hu:u<2*smM n d):SpI n d p (u+1) 0 0 0 ys:=TabI.alter h fun a b c ha hb hc=>by
  simp only[Xc]
  cases h1:BX n d a with
  | true =>
    cases h2:BX n d b with
    | true=>exact .inl (by simp)
    | false =>
      refine .inl ?_
      unfold BX at h1
      simp only[Bool.and_eq_true,decide_eq_true_eq] at h1
      rw[Bool.eq_iff_iff]
      simp only[if_true,Bool.false_eq_true,if_false,decide_eq_true_eq]
      omega
  | false =>
    cases h2:BX n d b with
    | true =>
      refine .inl ?_
      unfold BX at h2
      simp only[Bool.and_eq_true,decide_eq_true_eq] at h2
      rw[Bool.eq_iff_iff]
      simp only[if_true,Bool.false_eq_true,if_false,decide_eq_true_eq]
      omega
    | false =>
      have ha2:=FG h1
      have hb2:=FG h2
      by_cases e:Ek n d a=u∧Ek n d b=u
      · refine .inr ?_
        have:a=b:=by rw[← ha2,← hb2,e.1,e.2]
        subst this
        show DL n d a a c%p=0
        rw[Ns hS ha,Int.zero_emod]
      · refine .inl ?_
        rw[Bool.eq_iff_iff]
        simp only[Bool.false_eq_true,if_false,decide_eq_true_eq]
        omega
theorem SpI.end_ (h:SpI n d p (2*smM n d) 0 0 0 ys):ys=EG n d p:=TabI.all h (Mv p) fun a b c ha hb hc=>⟨.inl (by
  simp only[Xc]
  cases h1:BX n d a with
  | true =>
    cases h2:BX n d b with
    | true=>rfl
    | false =>
      have:=PI hb h2
      simp[this]
  | false =>
    have ha2:=PI ha h1
    cases h2:BX n d b with
    | true=>simp[ha2]
    | false =>
      have:=PI hb h2
      simp only[Bool.false_eq_true,if_false,decide_eq_true_eq]
      omega),.inl rfl⟩
end
end Go.Proofs.YtbmnnbglipkidaaGreatDoor
