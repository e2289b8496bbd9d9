/-
  Products of square matrices over a field, entry by entry: associative, distributive over sums, traces, transposed UF. No program is spoken of.
-/
import Derived.Test.YtbmnnbglipkidaaGreatDoorZ49
namespace Go.Proofs.YtbmnnbglipkidaaGreatDoor
set_option linter.unusedVariables false
set_option linter.unusedSimpArgs false
set_option linter.unusedVariables false
set_option linter.unusedSimpArgs false
theorem T1 {x y:List Int}(hl:x.length=y.length)(h:∀ k,k<x.length→x.getD k 0=y.getD k 0):x=y:=by
  refine List.ext_getElem hl fun k h1 h2=>?_
  have:=h k h1
  simpa [List.getD,h1,h2] using this
def sumN (f:Nat→Int):Nat→Int
  | 0=>0
  | m+1=>sumN f m+f m
theorem DH {f g:Nat→Int}:∀ {m:Nat},(∀ k,k<m→f k=g k)→sumN f m=sumN g m
  | 0,_=>rfl
  | m+1,h=>by rw[sumN,sumN,DH fun k hk=>h k (by omega),h m (by omega)]
theorem LY {f:Nat→Int}{c:Int}:∀ {m:Nat},sumN (fun k=>c*f k) m=c*sumN f m
  | 0=>by simp[sumN]
  | m+1=>by simp only[sumN,LY (m:=m),Int.mul_add]
theorem KB {f:Nat→Int}{p:Int}:∀ {m:Nat},sumN (fun k=>f k%p) m%p=sumN f m%p
  | 0=>rfl
  | m+1=>by simp only[sumN];rw[Int.add_emod,KB (m:=m),Int.emod_emod,← Int.add_emod]
theorem SG {f g:Nat→Int}{p:Int}{m:Nat}:sumN (fun k=>f k%p*g k) m%p=sumN (fun k=>f k*g k) m%p:=by
  rw[← KB,← KB (f:=fun k=>f k*g k)]
  congr 1
  exact DH fun k _=>by rw[Int.mul_emod,Int.emod_emod,← Int.mul_emod]
theorem N5 {x:List Int}{k q:Nat}{v:Int}:(x.set k v).getD q 0=if k=q∧q<x.length then v else x.getD q 0:=by
  by_cases h:k=q
  · subst h
    by_cases h2:k<x.length
    · rw[if_pos ⟨rfl,h2⟩]
      simp[List.getD,h2]
    · rw[if_neg fun e=>h2 e.2,List.set_eq_of_length_le (by omega)]
  · rw[if_neg fun e=>h e.1]
    simp[List.getD,List.getElem?_set,h]
theorem Nk {g:Nat→Int→Int}{x:List Int}{l:Nat}:∀ {m q:Nat},l+m≤x.length→((List.range m).foldl (fun(o:List Int) (i:Nat)=>o.set (l+i) (g i (o.getD (l+i) 0))) x).getD q 0=if l≤q∧q<l+m then g (q - l) (x.getD q 0) else x.getD q 0
  | 0,q,_=>by
    rw[if_neg (by omega)]
    rfl
  | m+1,q,h=>by
    have hl:((List.range m).foldl (fun(o:List Int) (i:Nat)=>o.set (l+i) (g i (o.getD (l+i) 0))) x).length=x.length:=Cg (fun o:List Int=>o.length=x.length) _ rfl fun o i _ h=>by rw[List.length_set];exact h
    rw[Fg,N5,hl,Nk (by omega),Nk (by omega)]
    by_cases h1:l+m=q
    · subst h1
      rw[if_pos ⟨rfl,by omega⟩,if_neg (by omega),if_pos (by omega),Nat.add_sub_cancel_left]
    · rw[if_neg (by omega)]
      by_cases h2:l≤q∧q<l+m
      · rw[if_pos h2,if_pos (by omega)]
      · rw[if_neg h2,if_neg (by omega)]
theorem YL {p k:Int}{x y:List Int}{l q:Nat}(hp:0<p∧p≤10007)(hk:0≤k∧k≤20000)(hx:Rg p x)(hy:Rg p y)(hl:l+y.length≤x.length) :
    (MO x l k p y).getD q 0=if l≤q∧q<l+y.length then(x.getD q 0+k*y.getD (q - l) 0)%p else x.getD q 0:=by
  have h:=Nk (g:=fun i v=>(IntKind.i64.wrap (v+IntKind.i64.wrap (k*y.getD i 0))).tmod p) (x:=x) (l:=l) (m:=y.length) (q:=q) hl
  refine(show (MO x l k p y).getD q 0=_ from h).trans ?_
  split
  · have a:=hx q
    have b:=hy (q - l)
    rw[fq hp hk a b,Int.tmod_eq_emod_of_nonneg]
    have hm:=BH (A:=20000) (B:=10007) (a:=k) (b:=y.getD (q - l) 0) hk (by omega)
    omega
  · rfl
def Eb (n:Nat)(d:List Int)(i j:Nat):Int:=d.getD (i*n+j) 0
theorem Sn (i n:Nat):((i:Int)*(n:Int)).toNat=i*n:=by rw[← Int.natCast_mul,Int.toNat_natCast]
theorem U2 (i n k:Nat):((i:Int)*(n:Int)+(k:Int)).toNat=i*n+k:=by rw[← Int.natCast_mul,← Int.natCast_add,Int.toNat_natCast]
theorem ZN {i n:Nat}{m:Nat}(h:i<m):i*n+n≤m*n:=by
  have:=Nat.mul_le_mul_right n (show i+1≤m from h)
  rw[Nat.add_mul,Nat.one_mul] at this
  exact this
theorem RA {p:Int}{n i k q:Nat}{ad bd o:List Int}(hp:0<p∧p≤10007)(ha:Rg p ad)(hb:Rg p bd)(ho:Rg p o)(hol:o.length=n*n)(hbl:bd.length=n*n)(hi:i<n)(hk:k<n) :
    (FT p n n ad bd i o k).getD q 0=if i*n≤q∧q<i*n+n then(o.getD q 0+Eb n ad i k*Eb n bd k (q - i*n))%p else o.getD q 0:=by
  have hr:(rowY (n:Int) bd k).length=n:=by
    rw[LL (n:=(n:Int)) (by omega) (by omega) (by rw[hbl];omega)]
    omega
  have hi2:=ZN (n:=n) hi
  have ek:ad.getD ((i:Int)*(n:Int)+(k:Int)).toNat 0=Eb n ad i k:=by rw[U2];rfl
  have hka:=ha (i*n+k)
  unfold FT
  rw[ek]
  split
  · rename_i h0
    split
    · have:=ho q
      rw[h0,Int.zero_mul,Int.add_zero,Int.emod_eq_of_lt this.1 this.2]
    · rfl
  · rw[Sn,YL hp (by unfold Eb;omega) ho (hb.row hp.1) (by omega),hr]
    split
    · rename_i h
      rw[Ov (by omega) (by omega),U2]
      rfl
    · rfl
theorem LM {p:Int}{n i:Nat}{ad bd o:List Int}(hp:0<p∧p≤10007)(ha:Rg p ad)(hb:Rg p bd)(ho:Rg p o)(hol:o.length=n*n)(hbl:bd.length=n*n)(hi:i<n):∀ {m:Nat},m≤n →
    let r:=(List.range m).foldl (FT p n n ad bd i) o
    r.length=n*n∧Rg p r∧∀ q,r.getD q 0=if i*n≤q∧q<i*n+n then(o.getD q 0+sumN (fun k=>Eb n ad i k*Eb n bd k (q - i*n)) m)%p else o.getD q 0
  | 0,_=>by
    refine⟨hol,ho,fun q=>?_⟩
    have:=ho q
    simp only[List.range_zero,List.foldl_nil,sumN,Int.add_zero]
    rw[Int.emod_eq_of_lt this.1 this.2]
    split <;> rfl
  | m+1,hm=>by
    obtain⟨h1,h2,h3⟩:=LM hp ha hb ho hol hbl hi (m:=m) (by omega)
    simp only at h1 h2 h3 ⊢
    rw[Fg]
    refine⟨by rw[N8];exact h1,?_,fun q=>?_⟩
    · intro q
      rw[RA hp ha hb h2 h1 hbl hi (by omega)]
      split
      · exact⟨Int.emod_nonneg _ (by omega),Int.emod_lt_of_pos _ (by omega)⟩
      · exact h2 q
    · rw[RA hp ha hb h2 h1 hbl hi (by omega),h3 q]
      split
      · rw[sumN,Int.add_emod,Int.emod_emod,← Int.add_emod,Int.add_assoc]
      · rfl
theorem Qq {p:Int}{n:Nat}{ad bd:List Int}(hp:0<p∧p≤10007)(ha:Rg p ad)(hb:Rg p bd)(hbl:bd.length=n*n):∀ {m:Nat},m≤n →
    let r:=(List.range m).foldl (fun(o:List Int) (i:Nat)=>FR p n n ad bd i o) (List.replicate ((n:Int)*(n:Int)).toNat 0)
    r.length=n*n∧Rg p r∧∀ i j,i<n→j<n→r.getD (i*n+j) 0=if i<m then sumN (fun k=>Eb n ad i k*Eb n bd k j) n%p else 0
  | 0,_=>by
    refine⟨by simp[Sn],Rg.rep hp.1 _,fun i j _ _=>?_⟩
    simp only[List.range_zero,List.foldl_nil,Nat.not_lt_zero,if_false,List.getD,List.getElem?_replicate]
    split <;> rfl
  | m+1,hm=>by
    obtain⟨h1,h2,h3⟩:=Qq hp ha hb hbl (m:=m) (by omega)
    simp only at h1 h2 h3 ⊢
    rw[Fg]
    have e:∀ o:List Int,FR p n n ad bd m o=(List.range n).foldl (FT p n n ad bd m) o:=fun o=>by unfold FR;rw[Int.toNat_natCast]
    rw[e]
    obtain⟨g1,g2,g3⟩:=LM hp ha hb h2 h1 hbl (i:=m) (by omega) (Nat.le_refl n)
    refine⟨g1,g2,fun i j hi hj=>?_⟩
    rw[g3,h3 i j hi hj]
    by_cases hc:i=m
    · subst hc
      rw[if_pos ⟨by omega,by omega⟩,if_neg (by omega),if_pos (by omega),Int.zero_add]
      congr 1
      exact DH fun k _=>by rw[Nat.add_sub_cancel_left]
    · rw[if_neg ?_]
      · by_cases h4:i<m
        · rw[if_pos h4,if_pos (by omega)]
        · rw[if_neg h4,if_neg (by omega)]
      · rintro⟨q1,q2⟩
        rcases Nat.lt_or_gt_of_ne hc with h5 | h5
        · have:=ZN (n:=n) h5
          omega
        · have:=ZN (n:=n) h5
          omega
theorem NN {p:Int}{n:Nat}{ad bd:List Int}(hp:0<p∧p≤10007)(ha:Rg p ad)(hb:Rg p bd)(hbl:bd.length=n*n){i j:Nat}(hi:i<n)(hj:j<n):Eb n (mulF p n n n ad bd) i j=sumN (fun k=>Eb n ad i k*Eb n bd k j) n%p:=by
  obtain⟨_,_,h⟩:=Qq hp ha hb hbl (Nat.le_refl n)
  have:=h i j hi hj
  rw[if_pos hi] at this
  unfold Eb mulF
  rw[Int.toNat_natCast]
  exact this
theorem KO {p:Int}{n:Nat}{ad bd:List Int}:(mulF p n n n ad bd).length=n*n:=by rw[Eh,Sn]
theorem Xr {n:Nat}{x y:List Int}(hx:x.length=n*n)(hy:y.length=n*n)(h:∀ i j,i<n→j<n→Eb n x i j=Eb n y i j):x=y:=T1 (by omega) fun q hq=>by
  have hn:0<n:=Nat.pos_of_ne_zero fun e=>by subst e;rw[Nat.zero_mul] at hx;omega
  have e:q / n*n+q%n=q:=by rw[Nat.mul_comm];exact Nat.div_add_mod q n
  have:=h (q / n) (q%n) ((Nat.div_lt_iff_lt_mul hn).2 (by omega)) (Nat.mod_lt _ hn)
  unfold Eb at this
  rw[e] at this
  exact this
theorem MF {k p:Int}:∀ {x y:List Int} {q:Nat},x.length=y.length→q<x.length→(addF k p x y).getD q 0=(x.getD q 0+k*y.getD q 0)%p
  | [],_,_,_,h=>by simp at h
  | _::_,[],_,h,_=>by simp at h
  | a::x,b::y,0,_,_=>rfl
  | a::x,b::y,q+1,h,hq=>by
    have:=MF (k:=k) (p:=p) (x:=x) (y:=y) (q:=q) (by simpa using h) (by simpa using hq)
    simpa [addF,List.getD] using this
theorem DM {k p:Int}(hp:0<p):∀ {x y:List Int},Rg p x→Rg p (addF k p x y)
  | [],[],h=>h
  | [],_::_,h=>h
  | a::x,[],h=>by rw[CZ];exact h
  | a::x,b::y,h=>by
    have hx:Rg p x:=fun i=>by have:=h (i+1);simpa [List.getD] using this
    have ih:=DM (k:=k) hp (x:=x) (y:=y) hx
    intro i
    cases i with
    | zero=>exact⟨Int.emod_nonneg _ (by omega),Int.emod_lt_of_pos _ hp⟩
    | succ i=>have:=ih i;simpa [addF,List.getD] using this
theorem Tk {n i j:Nat}(hi:i<n)(hj:j<n):i*n+j<n*n:=by
  have:=ZN (n:=n) hi
  omega
def Kw (p:Int):Nat→Int→Int→Int→Int
  | 0,_,_,o=>o
  | f+1,x,n,o=>if 0<n then Kw p f ((x*x).tmod p) (n.tdiv 2) (if n.tmod 2=1 then(o*x).tmod p else o) else o
def pwC (p:Nat):Nat→Nat→Nat→Nat→Nat
  | 0,_,_,o=>o
  | f+1,x,n,o=>bif Nat.blt 0 n then pwC p f (x*x%p) (n / 2) (bif Nat.beq (n%2) 1 then o*x%p else o) else o
theorem XE {n:Nat}(h:0<n):Nat.blt 0 n=true:=Nat.ble_eq_true_of_le h
theorem cU {n:Nat}(h : ¬ 0<n):Nat.blt 0 n=false:=by rw[show n=0 by omega];rfl
theorem Ti {p:Nat}:∀ {f x n o:Nat},Kw p f x n o=(pwC p f x n o:Nat)
  | 0,x,n,o=>rfl
  | f+1,x,n,o=>by
    have e1:((x:Int)*x).tmod p=((x*x%p:Nat):Int):=by rw[← Int.natCast_mul];rfl
    have e2:((o:Int)*x).tmod p=((o*x%p:Nat):Int):=by rw[← Int.natCast_mul];rfl
    have e3:(n:Int).tdiv 2=((n / 2:Nat):Int):=rfl
    have e4:(n:Int).tmod 2=((n%2:Nat):Int):=rfl
    rw[Kw,pwC]
    by_cases h:0<n
    · rw[if_pos (by omega),XE h,cond_true,e1,e3,e4]
      by_cases h2:n%2=1
      · rw[if_pos (by omega),show Nat.beq (n%2) 1=true from by rw[Nat.beq_eq];exact h2,cond_true,e2]
        exact Ti
      · rw[if_neg (by omega),show Nat.beq (n%2) 1=false from by
          cases hb:Nat.beq (n%2) 1
          · rfl
          · exact absurd (Nat.eq_of_beq_eq_true hb) h2,cond_false]
        exact Ti
    · rw[if_neg (by omega),cU h,cond_false]
def Nm:Nat→Int→Int→Int→Int→Option Int
  | 0,_,_,_,_=>none
  | f+1,a,b,x,y=>if 1<a then(if 0<b∧b≤10007∧a≤10007∧(-100000≤x∧x≤100000)∧(-100000≤y∧y≤100000) then Nm f b (a.tmod b) y (x - a.tdiv b*y) else none) else some x
theorem V7 {r:Int}{f:Nat}{a b x y:Int}(h:Nm f a b x y=some r)(ha:1<a):∃ g,f=g+1∧(0<b∧b≤10007∧a≤10007∧(-100000≤x∧x≤100000)∧(-100000≤y∧y≤100000))∧Nm g b (a.tmod b) y (x - a.tdiv b*y)=some r:=by
  cases f with
  | zero=>simp[Nm] at h
  | succ g =>
    rw[Nm,if_pos ha] at h
    by_cases hc:0<b∧b≤10007∧a≤10007∧(-100000≤x∧x≤100000)∧(-100000≤y∧y≤100000)
    · rw[if_pos hc] at h
      exact⟨g,rfl,hc,h⟩
    · rw[if_neg hc] at h
      cases h
theorem XI {r:Int}{f:Nat}{a b x y:Int}(h:Nm f a b x y=some r)(ha : ¬ 1<a):x=r:=by
  cases f with
  | zero=>simp[Nm] at h
  | succ g =>
    rw[Nm,if_neg ha] at h
    exact Option.some.inj h
def sgI (s:Bool)(x:Nat):Int:=bif s then(x:Int) else -(x:Int)
def fL:Nat→Nat→Nat→Nat→Nat→Bool→Option Int
  | 0,_,_,_,_,_=>none
  | f+1,a,b,x,y,s=>bif Nat.ble a 1 then some (sgI s x) else bif (Nat.blt 0 b&&Nat.ble b 10007&&Nat.ble a 10007&&Nat.ble x 100000&&Nat.ble y 100000) then fL f b (a%b) y (x+a / b*y) (!s) else none
theorem al {r:Int}:∀ {f a b x y:Nat} {s:Bool},fL f a b x y s=some r→Nm f a b (sgI s x) (sgI (!s) y)=some r
  | 0,a,b,x,y,s,h=>by simp[fL] at h
  | f+1,a,b,x,y,s,h=>by
    rw[fL] at h
    rw[Nm]
    by_cases ha:a≤1
    · rw[Nat.ble_eq_true_of_le ha,cond_true] at h
      rw[if_neg (by omega)]
      exact h
    · rw[show Nat.ble a 1=false from by
        cases hb:Nat.ble a 1
        · rfl
        · exact absurd (Nat.le_of_ble_eq_true hb) ha,cond_false] at h
      rw[if_pos (by omega)]
      cases hc:(Nat.blt 0 b&&Nat.ble b 10007&&Nat.ble a 10007&&Nat.ble x 100000&&Nat.ble y 100000) with
      | false=>rw[hc] at h;simp at h
      | true =>
        rw[hc,cond_true] at h
        simp only[Bool.and_eq_true] at hc
        obtain⟨⟨⟨⟨c1,c2⟩,c3⟩,c4⟩,c5⟩:=hc
        have d1:0<b:=Nat.le_of_ble_eq_true c1
        have d2:=Nat.le_of_ble_eq_true c2
        have d3:=Nat.le_of_ble_eq_true c3
        have d4:=Nat.le_of_ble_eq_true c4
        have d5:=Nat.le_of_ble_eq_true c5
        rw[if_pos (by cases s <;> simp only[sgI,cond_true,cond_false,Bool.not_true,Bool.not_false] <;> omega)]
        have ih:=al h
        have e1:(a:Int).tmod b=((a%b:Nat):Int):=rfl
        have e2:sgI s x - (a:Int).tdiv b*sgI (!s) y=sgI (!!s) (x+a / b*y):=by
          have e3:(a:Int).tdiv b=((a / b:Nat):Int):=rfl
          rw[e3]
          cases s
          · simp only[sgI,cond_true,cond_false,Bool.not_true,Bool.not_false,Int.natCast_add,Int.natCast_mul]
            omega
          · simp only[sgI,cond_true,cond_false,Bool.not_true,Bool.not_false,Int.natCast_add,Int.natCast_mul,Int.mul_neg]
            omega
        rw[e1,e2]
        exact ih
def eV (p k:Nat):Bool:=match fL 30 k p 1 0 true with | some r=>decide (r%(p:Int)=((pwC p 14 k (p - 2) 1%p:Nat):Int)) | none=>false
def gI (p:Nat):Bool:=(List.range 101).all fun d=>Nat.ble d 1 || Nat.blt p (d*d) || !(Nat.beq (p%d) 0)
def RT (p:Nat):Bool := !(gI p) || (List.range 41).all fun k=>Nat.beq k 0 || Nat.ble p k || eV p k
def dy (n:Nat):List Int:=(List.range n).foldl (fun(o:List Int) (i:Nat)=>o.set (i*n+i) 1) (List.replicate (n*n) 0)
theorem QM (n:Nat):(dy n).length=n*n:=Cg (fun o:List Int=>o.length=n*n) _ (by simp) fun o i _ h=>by rw[List.length_set];exact h
theorem OV {p:Int}(hp:1<p)(n:Nat):Rg p (dy n):=Cg (fun o=>Rg p o) _ (Rg.rep (by omega) _) fun o i _ h=>h.set (by omega) _
def OU (p:Int)(n:Nat)(m:List Int):Nat→List Int
  | 0=>dy n
  | k+1=>mulF p n n n (OU p n m k) m
theorem X3 {p:Int}{n:Nat}{m:List Int}:∀ k,(OU p n m k).length=n*n
  | 0=>QM n
  | k+1=>KO
theorem TR {p:Int}{n:Nat}{m:List Int}(hp:1<p∧p≤10007)(hm:Rg p m):∀ k,Rg p (OU p n m k)
  | 0=>OV hp.1 n
  | k+1=>Fq (by omega) (TR hp hm k) hm
def fcM (p:Int)(iv:Nat→Int):Nat→Int
  | 0=>1
  | k+1=>fcM p iv k*iv (k+1)%p
theorem VQ {p:Int}{iv:Nat→Int}(hp:1<p):∀ k,0≤fcM p iv k∧fcM p iv k<p
  | 0=>⟨by simp[fcM],by simpa [fcM] using hp⟩
  | k+1=>⟨Int.emod_nonneg _ (by omega),Int.emod_lt_of_pos _ (by omega)⟩
def RU (p:Int)(n:Nat)(m:List Int)(iv:Nat→Int):Nat→List Int
  | 0=>List.replicate (n*n) 0
  | k+1=>addF (fcM p iv k) p (RU p n m iv k) (OU p n m k)
def dq (p k:Int)(d:List Int):List Int:=d.map fun x=>(x*(k%p)).tmod p
def SV (p:Int)(n:Nat)(m:List Int)(iv:Nat→Int):Nat→List Int
  | 0=>dy n
  | k+1=>dq p (iv (k+1)) (mulF p n n n (SV p n m iv k) m)
def S8 (p:Int)(n:Nat)(m:List Int)(iv:Nat→Int):Nat→List Int
  | 0=>List.replicate (n*n) 0
  | k+1=>addF 1 p (S8 p n m iv k) (SV p n m iv k)
theorem YM (p k:Int)(d:List Int):(dq p k d).length=d.length:=by simp[dq]
theorem aX {p k:Int}{n:Nat}{d:List Int}(hp:0<p)(h:Rg p d)(hl:d.length=n*n){i j:Nat}(hi:i<n)(hj:j<n):Eb n (dq p k d) i j=Eb n d i j*k%p:=by
  have hq:i*n+j<d.length:=by rw[hl];exact Tk hi hj
  have e:Eb n (dq p k d) i j=(Eb n d i j*(k%p)).tmod p:=by
    unfold Eb dq
    simp only[List.getD,List.getElem?_map,List.getElem?_eq_getElem hq,Option.map_some,Option.getD_some]
  have hh:0≤Eb n d i j*(k%p):=Int.mul_nonneg (h (i*n+j)).1 (Int.emod_nonneg _ (by omega))
  rw[e,Int.tmod_eq_emod_of_nonneg hh,Int.mul_emod,Int.emod_emod,← Int.mul_emod]
theorem Uh {p k:Int}{d:List Int}(hp:0<p)(h:Rg p d):Rg p (dq p k d):=Rg.of hp fun x hx=>by
  obtain⟨y,hy,rfl⟩:=List.mem_map.1 hx
  have hn:=Int.mul_nonneg (h.mem hy).1 (Int.emod_nonneg k (show p≠0 by omega))
  exact⟨Int.tmod_nonneg _ hn,Int.tmod_lt_of_pos _ hp⟩
theorem XC {p:Int}{n:Nat}{m:List Int}{iv:Nat→Int}:∀ k,(SV p n m iv k).length=n*n
  | 0=>QM n
  | k+1=>by rw[SV,YM];exact KO
theorem Uj {p:Int}{n:Nat}{m:List Int}{iv:Nat→Int}(hp:1<p∧p≤10007)(hm:Rg p m):∀ k,Rg p (SV p n m iv k)
  | 0=>OV hp.1 n
  | k+1=>Uh (by omega) (Fq (by omega) (Uj hp hm k) hm)
theorem ZS {p:Int}{n:Nat}{m:List Int}{iv:Nat→Int}(hp:1<p∧p≤10007)(hm:Rg p m)(hl:m.length=n*n):∀ (k:Nat) {i j:Nat},i<n→j<n→Eb n (SV p n m iv k) i j=fcM p iv k*Eb n (OU p n m k) i j%p
  | 0,i,j,hi,hj=>by
    have:=OV hp.1 n (i*n+j)
    rw[SV,OU,fcM,Int.one_mul]
    exact(Int.emod_eq_of_lt this.1 this.2).symm
  | k+1,i,j,hi,hj=>by
    have hp0:0<p∧p≤10007:=by omega
    have ht:=Uj (iv:=iv) (n:=n) hp hm k
    have hw:=TR (n:=n) hp hm k
    rw[SV,aX hp0.1 (Fq hp0 ht hm) KO hi hj,NN hp0 ht hm hl hi hj,OU,NN hp0 hw hm hl hi hj,fcM]
    rw[DH (f:=fun l=>Eb n (SV p n m iv k) i l*Eb n m l j) (g:=fun l=>(fcM p iv k*Eb n (OU p n m k) i l)%p*Eb n m l j) fun l hlt=>by rw[ZS hp hm hl k hi hlt],SG,
      DH (f:=fun l=>fcM p iv k*Eb n (OU p n m k) i l*Eb n m l j) (g:=fun l=>fcM p iv k*(Eb n (OU p n m k) i l*Eb n m l j)) fun l _=>Int.mul_assoc ..,LY]
    generalize sumN (fun l=>Eb n (OU p n m k) i l*Eb n m l j) n=s
    generalize fcM p iv k=f
    generalize iv (k+1)=v
    rw[Int.mul_emod,Int.emod_emod,← Int.mul_emod,Int.mul_emod (f*v%p),Int.emod_emod,Int.emod_emod,← Int.mul_emod]
    congr 1
    rw[Int.mul_assoc,Int.mul_assoc,Int.mul_comm s v]
theorem RF {p:Int}{n:Nat}{m:List Int}{iv:Nat→Int}:∀ k,(RU p n m iv k).length=n*n
  | 0=>by simp[RU]
  | k+1=>by rw[RU,BF];exact RF k
theorem ab {p:Int}{n:Nat}{m:List Int}{iv:Nat→Int}(hp:1<p∧p≤10007)(hm:Rg p m)(hl:m.length=n*n):∀ k,RU p n m iv k=S8 p n m iv k
  | 0=>rfl
  | k+1=>by
    have ih:=ab (iv:=iv) hp hm hl k
    have hq:(S8 p n m iv k).length=n*n:=by rw[← ih];exact RF k
    rw[RU,S8,ih]
    refine Xr (by rw[BF];exact hq) (by rw[BF];exact hq) fun i j hi hj=>?_
    have e1:Eb n (addF (fcM p iv k) p (S8 p n m iv k) (OU p n m k)) i j=(Eb n (S8 p n m iv k) i j+fcM p iv k*Eb n (OU p n m k) i j)%p:=MF (by rw[hq,X3]) (by rw[hq];exact Tk hi hj)
    have e2:Eb n (addF 1 p (S8 p n m iv k) (SV p n m iv k)) i j=(Eb n (S8 p n m iv k) i j+1*Eb n (SV p n m iv k) i j)%p:=MF (by rw[hq,XC]) (by rw[hq];exact Tk hi hj)
    rw[e1,e2,Int.one_mul,ZS hp hm hl k hi hj,Int.add_emod,Int.add_emod (Eb n (S8 p n m iv k) i j) (fcM p iv k*Eb n (OU p n m k) i j%p),Int.emod_emod]
theorem LU {p:Int}{iv jv:Nat→Int}:∀ {k:Nat},(∀ i,1≤i→i≤k→iv i=jv i)→fcM p iv k=fcM p jv k
  | 0,_=>rfl
  | k+1,h=>by rw[fcM,fcM,LU fun i h1 h2=>h i h1 (by omega),h (k+1) (by omega) (by omega)]
theorem LK {p:Int}{n:Nat}{m:List Int}{iv jv:Nat→Int}:∀ {k:Nat},(∀ i,1≤i→i<k→iv i=jv i)→RU p n m iv k=RU p n m jv k
  | 0,_=>rfl
  | k+1,h=>by rw[RU,RU,LK fun i h1 h2=>h i h1 (by omega),LU fun i h1 h2=>h i h1 (by omega)]
theorem cO {p:Int}{d:List Int}(h:Rg p d):GT d p=true:=List.all_eq_true.2 fun x hx=>inB_of (h.mem hx).1 (by have:=(h.mem hx).2;omega)
theorem SU {α:Type}{f g:α→Nat→α}(h:∀ o i,f o i=g o i)(a:α)(l:List Nat):l.foldl f a=l.foldl g a:=by rw[show f=g from funext fun o=>funext fun i=>h o i]
def fc (n:Int)(o:List Int)(i:Nat):List Int:=o.set ((i:Int)*n+(i:Int)).toNat 1
def Sk (n:Int):List Int:=(List.range n.toNat).foldl (fc n) (List.replicate (n*n).toNat 0)
theorem VL (n:Nat):Sk n=dy n:=by
  unfold Sk dy
  rw[Int.toNat_natCast,Sn]
  exact SU (fun o i=>by unfold fc;rw[U2]) _ _
theorem RJ (n:Int):(Sk n).length=(n*n).toNat:=Cg (fun o:List Int=>o.length=(n*n).toNat) _ (by simp) fun o i _ h=>by rw[fc,List.length_set];exact h
def N6 (p n:Int)(m:List Int):Nat→List Int
  | 0=>Sk n
  | k+1=>mulF p n n n (N6 p n m k) m
theorem Tf {p:Int}{n:Nat}{m:List Int}:∀ k,N6 p n m k=OU p n m k
  | 0=>VL n
  | k+1=>by rw[N6,OU,Tf k]
theorem HX {p n:Int}{m:List Int}:∀ k,(N6 p n m k).length=(n*n).toNat
  | 0=>RJ n
  | k+1=>Eh ..
theorem GS {p n:Int}{m:List Int}(hp:1<p∧p≤10007)(hm:Rg p m):∀ k,Rg p (N6 p n m k)
  | 0=>Cg (fun o=>Rg p o) _ (Rg.rep (by omega) _) fun o i _ h=>h.set (by omega) _
  | k+1=>Fq (by omega) (GS hp hm k) hm
def RS (p n:Int)(m:List Int):Nat→Nat→Int
  | 0,_ => -1
  | f+1,k=>if Dd (N6 p n m k)=true then(k:Int) else RS p n m f (k+1)
def EI (M:Mat):Int:=if AY M=true∧M.r=M.c then RS M.p M.r M.d (M.r.toNat+1) 0 else -1
theorem nlG_bd {p n:Int}{m:List Int}:∀ {f k:Nat}, -1≤RS p n m f k∧RS p n m f k<((f+k:Nat):Int)∨RS p n m f k = -1
  | 0,k => .inr rfl
  | f+1,k=>by
    rw[RS]
    split
    · exact .inl ⟨by omega,by omega⟩
    · rcases nlG_bd (p:=p) (n:=n) (m:=m) (f:=f) (k:=k+1) with h | h
      · exact .inl ⟨h.1,by omega⟩
      · exact .inr h
theorem SJ {x:List Int}{k:Nat}(h:∀ i,i<k→x.getD i 0=0)(hk:x.getD k 0=0):∀ i,i<k+1→x.getD i 0=0:=fun i hi=>by
  rcases Nat.lt_or_eq_of_le (Nat.le_of_lt_succ hi) with h9 | h9
  · exact h i h9
  · subst h9
    exact hk
theorem XL {xs:List Int}{i:Nat}(h:xs.getD i 0≠0):Dd xs=false:=by
  cases hz:Dd xs with
  | false=>rfl
  | true =>
    exfalso
    apply h
    by_cases hi:i<xs.length
    · have:=List.all_eq_true.1 hz xs[i] (List.getElem_mem hi)
      simpa [List.getD,hi] using this
    · simp[List.getD,List.getElem?_eq_none (Nat.le_of_not_lt hi)]
theorem TG {xs:List Int}(h:∀ i,i<xs.length→xs.getD i 0=0):Dd xs=true:=List.all_eq_true.2 fun x hx=>by
  obtain⟨i,hi,rfl⟩:=List.getElem_of_mem hx
  have:=h i hi
  simpa [List.getD,hi] using this
theorem NZ {p n:Int}{m:List Int}{f k:Nat}(hf:f≠0)(h:Dd (N6 p n m k)=false):RS p n m f k=RS p n m (f - 1) (k+1):=by
  obtain⟨g,rfl⟩:=Nat.exists_eq_succ_of_ne_zero hf
  rw[Nat.succ_eq_add_one,RS,h,if_neg (by simp)]
  rfl
theorem P7 {p n:Int}{m:List Int}{f k:Nat}(hf:f≠0)(h:Dd (N6 p n m k)=true):RS p n m f k=k:=by
  obtain⟨g,rfl⟩:=Nat.exists_eq_succ_of_ne_zero hf
  rw[Nat.succ_eq_add_one,RS,if_pos h]
def FZ (n p:Int):Int:=match Nm 30 n p 1 0 with | some r=>r%p | none=>0
theorem Vh {a b:Int}(ha:0≤a∧a≤10007)(hb:0<b):0≤a.tdiv b∧a.tdiv b≤10007:=by
  rw[Int.tdiv_eq_ediv_of_nonneg ha.1]
  exact⟨Int.ediv_nonneg ha.1 (by omega),Int.le_trans (Int.ediv_le_self b ha.1) ha.2⟩
theorem ZF {a y:Int}(ha:0≤a∧a≤10007)(hy : -100000≤y∧y≤100000) : -(10007*100000)≤a*y∧a*y≤10007*100000:=by
  rcases Int.le_total 0 y with h | h
  · have:=BH (A:=10007) (B:=100000) ha ⟨h,hy.2⟩
    omega
  · have:=BH (A:=10007) (B:=100000) (b := -y) ha ⟨by omega,by omega⟩
    rw[Int.mul_neg] at this
    omega
theorem Xs {f:Nat}{b:Int}(h:0≤b∧b<2 ^ f)(hb:0<b):∃ g,f=g+1:=by
  cases f with
  | zero=>exfalso;have:=h.2;simp at this;omega
  | succ g=>exact⟨g,rfl⟩
theorem Q3 {g:Nat}{b:Int}(h:0≤b∧b<2 ^ (g+1))(hb:0<b):0≤b.tdiv 2∧b.tdiv 2<2 ^ g:=by
  rw[Int.tdiv_eq_ediv_of_nonneg h.1]
  have:=h.2
  rw[Int.pow_succ] at this
  omega
theorem Sa {b:Int}(h:0≤b):0≤b.tdiv 2∧b.tdiv 2≤b:=by rw[Int.tdiv_eq_ediv_of_nonneg h];omega
theorem ZU {p x:Int}{q:Int}(h:0≤x∧x≤q)(hp:0<p:=by omega):0≤x.tmod p∧x.tmod p<p:=⟨Int.tmod_nonneg _ h.1,Int.tmod_lt_of_pos _ hp⟩
theorem YY {p x o n:Int}{f:Nat}(h : ¬ 0<n):Kw p f x n o=o:=by
  cases f with
  | zero=>rfl
  | succ g=>rw[Kw,if_neg h]
theorem Zz {p x o n:Int}{f:Nat}(h:0<n)(h2:n.tmod 2=1):Kw p (f+1) x n o=Kw p f ((x*x).tmod p) (n.tdiv 2) ((o*x).tmod p):=by rw[Kw,if_pos h,if_pos h2]
theorem Vv {p x o n:Int}{f:Nat}(h:0<n)(h2:n.tmod 2≠1):Kw p (f+1) x n o=Kw p f ((x*x).tmod p) (n.tdiv 2) o:=by rw[Kw,if_pos h,if_neg h2]
def LC (n p:Int):Int:=if AJ p=false∨n%p=0 then 0 else if p=2 then 1 else(Kw p 14 (n%p) (p - 2) 1).tmod p
theorem eH {n p:Int}(hp:AJ p=true)(h:n%p=0):LC n p=0:=if_pos (.inr h)
theorem fy {n p:Int}(hp:AJ p=true)(h:n%p≠0)(h2:p=2):LC n p=1:=by rw[LC,if_neg (by simp[hp,h]),if_pos h2]
theorem dF {n p:Int}(hp:AJ p=true)(h:n%p≠0)(h2:p≠2):LC n p=(Kw p 14 (n%p) (p - 2) 1).tmod p:=by rw[LC,if_neg (by simp[hp,h]),if_neg h2]
set_option maxRecDepth 100000
theorem Xw:(List.range' 3000 1200).all RT=true:=by decide +kernel
theorem Yh:(List.range' 4200 1200).all RT=true:=by decide +kernel
theorem YD:(List.range' 5400 1200).all RT=true:=by decide +kernel
theorem ZJ:(List.range' 6600 1200).all RT=true:=by decide +kernel
theorem XB:(List.range' 7800 1200).all RT=true:=by decide +kernel
theorem XR:(List.range' 9000 1008).all RT=true:=by decide +kernel
theorem ga:(List.range' 0 1000).all RT=true:=by decide +kernel
theorem XD:(List.range' 1000 1000).all RT=true:=by decide +kernel
theorem Zj:(List.range' 2000 1000).all RT=true:=by decide +kernel
theorem Dl {a b p:Nat}(h:(List.range' a b).all RT=true)(h1:a≤p)(h2:p<a+b):RT p=true:=List.all_eq_true.1 h p (List.mem_range'_1.2 ⟨h1,h2⟩)
theorem X6 {p:Nat}(h:p<10008):RT p=true:=by
  by_cases h0:p<1000
  · exact Dl ga (by omega) (by omega)
  by_cases h1:p<2000
  · exact Dl XD (by omega) (by omega)
  by_cases h2:p<3000
  · exact Dl Zj (by omega) (by omega)
  by_cases h3:p<4200
  · exact Dl Xw (by omega) (by omega)
  by_cases h4:p<5400
  · exact Dl Yh (by omega) (by omega)
  by_cases h5:p<6600
  · exact Dl YD (by omega) (by omega)
  by_cases h6:p<7800
  · exact Dl ZJ (by omega) (by omega)
  by_cases h7:p<9000
  · exact Dl XB (by omega) (by omega)
  exact Dl XR (by omega) (by omega)
theorem aS {p:Nat}(h:AJ (p:Int)=true):gI p=true:=by
  simp only[AJ,Bool.and_eq_true,List.all_eq_true] at h
  refine List.all_eq_true.2 fun d hd=>?_
  have:=h.2 d hd
  simp only[Bool.or_eq_true,decide_eq_true_eq,Bool.not_eq_true',beq_eq_false_iff_ne] at this ⊢
  rcases this with(h1 | h1) | h1
  · exact .inl (.inl (Nat.ble_eq_true_of_le (by omega)))
  · exact .inl (.inr (Nat.ble_eq_true_of_le (by have:(p:Int)<((d*d:Nat):Int):=by rw[Int.natCast_mul];exact h1
                                                omega)))
  · refine .inr ?_
    cases hb:Nat.beq (p%d) 0
    · rfl
    · exact absurd (show (p:Int)%(d:Int)=0 by have:=Nat.eq_of_beq_eq_true hb;omega) h1
theorem PB {p:Int}{k:Nat}(hp:AJ p=true)(h1:1≤k)(h2:k≤40)(h3:(k:Int)<p):∃ r,Nm 30 k p 1 0=some r∧r%p=Kw p 14 k (p - 2) 1%p:=by
  have hr:=AU hp
  obtain⟨q,rfl⟩:∃ q:Nat,p=q:=⟨p.toNat,by omega⟩
  have h:=X6 (p:=q) (by omega)
  rw[RT,aS hp,Bool.not_true,Bool.false_or] at h
  have h4:=List.all_eq_true.1 h k (List.mem_range.2 (by omega))
  have n1:Nat.beq k 0=false:=by
    cases hb:Nat.beq k 0
    · rfl
    · exact absurd (Nat.eq_of_beq_eq_true hb) (by omega)
  have n2:Nat.ble q k=false:=by
    cases hb:Nat.ble q k
    · rfl
    · exact absurd (Nat.le_of_ble_eq_true hb) (by omega)
  rw[n1,n2,Bool.false_or,Bool.false_or,eV] at h4
  split at h4
  · rename_i r hr2
    refine⟨r,al hr2,?_⟩
    rw[of_decide_eq_true h4,show ((q:Int) - 2)=((q - 2:Nat):Int) by omega,show (1:Int)=((1:Nat):Int) from rfl,Ti]
    rfl
  · cases h4
theorem U8 {p:Int}(hp:1<p):∀ {f:Nat} {x n o:Int},(0≤x∧x<p)→(0≤o∧o<p)→0≤Kw p f x n o∧Kw p f x n o<p
  | 0,x,n,o,_,h=>h
  | f+1,x,n,o,hx,ho=>by
    rw[Kw]
    split
    · refine U8 hp ⟨Int.tmod_nonneg _ (Int.mul_nonneg hx.1 hx.1),Int.tmod_lt_of_pos _ (by omega)⟩ ?_
      split
      · exact⟨Int.tmod_nonneg _ (Int.mul_nonneg ho.1 hx.1),Int.tmod_lt_of_pos _ (by omega)⟩
      · exact ho
    · exact ho
theorem bm {p:Int}{k:Nat}{r:Int}(hp:AJ p=true)(h1:1≤k)(h2:k≤40)(h3:(k:Int)<p)(hr:Nm 30 k p 1 0=some r):r%p=LC k p:=by
  obtain⟨r2,e1,e2⟩:=PB hp h1 h2 h3
  have hpr:=AU hp
  rw[e1] at hr
  obtain rfl:=Option.some.inj hr
  have hk:(k:Int)%p=k:=Int.emod_eq_of_lt (by omega) h3
  rw[LC,hp,hk,if_neg (by simp;omega)]
  have g:=U8 (p:=p) (f:=14) (x:=k) (n:=p - 2) (o:=1) (by omega) ⟨by omega,h3⟩ ⟨by omega,by omega⟩
  rw[e2]
  by_cases hp2:p=2
  · rw[if_pos hp2]
    subst hp2
    have:k=1:=by omega
    subst this
    rfl
  · rw[if_neg hp2,Int.tmod_eq_emod_of_nonneg g.1]
end Go.Proofs.YtbmnnbglipkidaaGreatDoor
