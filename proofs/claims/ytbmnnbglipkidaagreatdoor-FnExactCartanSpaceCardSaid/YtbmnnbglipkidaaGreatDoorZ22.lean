/-
  Words at work on roots: roots they stay; those that fall below zero. A check by the kernel for all Cartan matrices. No program is spoken of.
-/
import Derived.Test.YtbmnnbglipkidaaGreatDoorNewA
import Derived.Test.YtbmnnbglipkidaaGreatDoorRck
namespace Go.Proofs.YtbmnnbglipkidaaGreatDoor
set_option maxRecDepth 100000
set_option linter.unusedVariables false
set_option linter.unusedSimpArgs false
open Go.RowKit
section
variable {P:Program}{n:Nat}{env:List (Nat × Value)}{W:World}{own:List Asn}
end
end Go.Proofs.YtbmnnbglipkidaaGreatDoor
namespace Go.Proofs.YtbmnnbglipkidaaGreatDoor
set_option maxRecDepth 100000
set_option linter.unusedVariables false
set_option linter.unusedSimpArgs false
theorem rch_out {f:Nat→Bool}:∀ (k m:Nat),rch f k m≤m+k∧(∀ j,m≤j→j<rch f k m→f (j+1)=true)∧(rch f k m<m+k→f (rch f k m+1)=false)
  | 0,m=>⟨by simp[rch],fun j h1 h2=>by simp[rch] at h2;omega,fun h=>by simp[rch] at h⟩
  | k+1,m=>by
    rw[rch]
    split
    · rename_i h
      obtain⟨a,b,c⟩:=rch_out (f:=f) k (m+1)
      refine⟨by omega,fun j h1 h2=>?_,fun h3=>c (by omega)⟩
      by_cases e:j=m
      · rw[e];exact h
      · exact b j (by omega) h2
    · rename_i h
      exact⟨by omega,fun j h1 h2=>by omega,fun _=>by simpa using h⟩
theorem rch_is {f:Nat→Bool}:∀ (k m p:Nat),m≤p→p<m+k→(∀ j,m≤j→j<p→f (j+1)=true)→f (p+1)=false→rch f k m=p
  | 0,m,p,h1,h2,_,_=>by omega
  | k+1,m,p,h1,h2,h3,h4=>by
    rw[rch]
    by_cases e:m=p
    · subst e
      rw[h4]
      rfl
    · rw[h3 m (Nat.le_refl _) (by omega),if_pos rfl]
      exact rch_is k (m+1) p (by omega) (by omega) (fun j a b=>h3 j (by omega) b) h4
def IsAt (n:Int)(v x:List Int)(k:Int)(r:List Int):Prop:=(v.length:Int)=n∧∀ j,j<n.toNat→v.getD j 0=x.getD j 0+k*r.getD j 0
theorem RtOk.tens {n:Int}{d x:List Int}(h:RtOk n d)(hx:rtB (rSt n d) x=true):(x.length:Int)=n∧ten x:=h.ent2 hx
theorem rtB_mn {L:List (List Int)}(x:List Int):rtB L (mnF x)=rtB L x:=by rw[rtB,rtB,mnF_mnF,Bool.or_comm]
section
variable {n:Int}{d x y r:List Int}{i:Nat}
end
end Go.Proofs.YtbmnnbglipkidaaGreatDoor
namespace Go.Proofs.YtbmnnbglipkidaaGreatDoor
set_option maxRecDepth 100000
set_option linter.unusedVariables false
set_option linter.unusedSimpArgs false
theorem IsAt.eq {n:Int}{v w x r:List Int}{k:Int}(h:IsAt n v x k r)(g:IsAt n w x k r):v=w:=ext_getD (by have:=h.1;have:=g.1;omega) fun j hj=>by
  have:=h.1
  rw[h.2 j (by omega),g.2 j (by omega)]
theorem ten_wt {n:Int}{x:List Int}(hx:(x.length:Int)=n)(h:ten x):wtOk n x=true:=wtOk_of hx fun k _=>by have:=h k;omega
end Go.Proofs.YtbmnnbglipkidaaGreatDoor
namespace Go.Proofs.YtbmnnbglipkidaaGreatDoor
set_option maxRecDepth 100000
set_option linter.unusedVariables false
set_option linter.unusedSimpArgs false
end Go.Proofs.YtbmnnbglipkidaaGreatDoor
namespace Go.Proofs.YtbmnnbglipkidaaGreatDoor
set_option maxRecDepth 100000
set_option linter.unusedVariables false
set_option linter.unusedSimpArgs false
def lA (x:List Int)(k:Int)(y:List Int):List Int:=List.zipWith (fun a b=>a+k*b) x y
def sP:List Int→Int
  | []=>0
  | a::t=>a+sP t
def lq:List Int→List Int→Bool
  | [],[]=>true
  | a::s,b::t=>decide (a=b)&&lq s t
  | _,_=>false
theorem lq_eq:∀ {x y:List Int},lq x y=decide (x=y)
  | [],[]=>rfl
  | [],b::t=>rfl
  | a::s,[]=>rfl
  | a::s,b::t=>by
    rw[lq,lq_eq]
    by_cases h:a=b
    · by_cases h2:s=t
      · simp[h,h2]
      · simp[h2]
    · simp[h]
theorem lA_len {x y:List Int}{k:Int}(h:y.length=x.length):(lA x k y).length=x.length:=by
  rw[lA,List.length_zipWith]
  omega
theorem lA_get {x y:List Int}{k:Int}{j:Nat}(hj:j<x.length)(h:y.length=x.length):(lA x k y).getD j 0=x.getD j 0+k*y.getD j 0:=by
  have hy:j<y.length:=by omega
  simp[lA,List.getD,List.getElem?_zipWith,hj,hy]
theorem sP_lA:∀ {x y:List Int} {k:Int},y.length=x.length→sP (lA x k y)=sP x+k*sP y
  | [],[],k,_=>by simp[lA,sP]
  | [],b::t,k,h=>by simp at h
  | a::s,[],k,h=>by simp at h
  | a::s,b::t,k,h=>by
    have h1:=sP_lA (x:=s) (y:=t) (k:=k) (by simpa using h)
    have e:lA (a::s) k (b::t)=(a+k*b)::lA s k t:=rfl
    rw[e,sP,sP,sP,h1,Int.mul_add]
    omega
theorem sP_mn:∀ x:List Int,sP (mnF x) = -(sP x)
  | []=>rfl
  | a::t=>by
    have h1:=sP_mn t
    have e:mnF (a::t)=(0 - a)::mnF t:=rfl
    rw[e,sP,sP,h1]
    omega
def fif (x:List Int):Prop:=∀ j, -50≤x.getD j 0∧x.getD j 0≤50
theorem ten_fif {x:List Int}(h:ten x):fif x:=fun j=>by have:=h j;omega
theorem lp_lA {x y:List Int}{k:Int}(hl:y.length=x.length)(hk : -40≤k∧k≤40)(hx:fif x)(hy:fif y):lpF x k y=lA x k y:=by
  refine ext_getD (by rw[lpF_len,lA_len hl]) fun j hj=>?_
  rw[lpF_len] at hj
  have h1:=hx j
  have h2:=hy j
  have h3:=mul_abs (a:=k) (b:=y.getD j 0) (A:=40) (B:=50) (by omega) (by omega)
  rw[lpF_get hj hl,lA_get hj hl,wrap_in (x:=k*y.getD j 0) (by omega) (by omega),wrap_in (by omega) (by omega)]
theorem sP_take {x:List Int}(hx:∀ j,j<x.length → -1000≤x.getD j 0∧x.getD j 0≤1000)(hl:x.length≤1000):∀ m:Nat,m≤x.length→(List.range m).foldl (fun(s:Int) (i:Nat)=>IntKind.i64.wrap (s+x.getD i 0)) 0=sP (x.take m) ∧ -(1000*(m:Int))≤sP (x.take m)∧sP (x.take m)≤1000*(m:Int)
  | 0,_=>by simp[sP]
  | m+1,h=>by
    obtain⟨h1,h2⟩:=sP_take hx hl m (by omega)
    have h3:=hx m (by omega)
    have e:x.take (m+1)=x.take m++[x.getD m 0]:=takeD_snoc (d:=0) (by omega)
    have e2:∀ (a:List Int) (b:Int),sP (a++[b])=sP a+b:=fun a b=>by
      induction a with
      | nil=>show b+0=0+b;omega
      | cons c t ih=>rw[List.cons_append,sP,sP,ih];omega
    rw[foldl_succ,h1,e,e2,wrap_in (by omega) (by omega)]
    exact⟨rfl,by omega,by omega⟩
theorem sumW_sP {x:List Int}(hx:∀ j,j<x.length → -1000≤x.getD j 0∧x.getD j 0≤1000)(hl:x.length≤1000):sumW x=sP x:=by
  rw[sumW,(sP_take hx hl x.length (Nat.le_refl _)).1,List.take_length]
def cnF:List (List Int × Int)→List Int→Int
  | [],_=>0
  | (r,h)::t,u=>bif lq r u then h else cnF t u
def cnH (RH:List (List Int × Int))(u:List Int):Int:=bif decide (0<sP u) then cnF RH u else rcL (mnF u) fun v=>cnF RH v
def cnR:List (List Int × List (List Int × Int))→List Int→List (List Int × Int)
  | [],_=>[]
  | (r,w)::t,z=>bif lq r z then w else cnR t z
def cnTab (TT:List (List Int × List (List Int × Int)))(z x:List Int):Int:=cnF (cnR TT z) x
def cnPn (RH:List (List Int × Int))(TT:List (List Int × List (List Int × Int)))(x y z:List Int)(hz:Int):Int :=
  bif decide (0<sP z) then rcL (mnF y) fun y' => -((hz*cnTab TT x y').tdiv (cnF RH x))
  else rcL (mnF y) fun y'=>rcL (mnF z) fun z'=>(hz*cnTab TT y' z').tdiv (cnF RH y')
def cnN (RH:List (List Int × Int))(TT:List (List Int × List (List Int × Int)))(x y:List Int):Int :=
  rcL (lA x 1 y) fun z=>rcZ (cnH RH z) fun hz=>bif decide (hz=0) then 0 else
    bif decide (0<sP x) then(bif decide (0<sP y) then cnTab TT z x else cnPn RH TT x y z hz)
    else bif decide (0<sP y) then -(cnPn RH TT y x z hz) else rcL (mnF z) fun z'=>rcL (mnF x) fun x' => -(cnTab TT z' x')
def cnSh (RH:List (List Int × Int))(TT:List (List Int × List (List Int × Int)))(a b c d:List Int):Int :=
  rcL (lA a 1 b) fun u=>rcZ (cnH RH u) fun hu=>bif decide (hu=0) then 0 else(6*cnN RH TT a b*cnN RH TT c d).tdiv hu
def cnE (RH:List (List Int × Int))(TT:List (List Int × List (List Int × Int)))(z:List Int)(hz:Int)(f g:List Int)(base:Nat)(x y:List Int):Int :=
  bif lq x f then(base:Int) else bif lq y f then -(base:Int) else
    rcL (mnF f) fun f'=>rcL (mnF g) fun g'=>(hz*(cnSh RH TT y f' x g'+cnSh RH TT f' x y g')).tdiv (6*(base:Int))
def cnRch (RH:List (List Int × Int))(x r:List Int):Nat:=rch (fun m=>rcL (lA x (-(m:Int)) r) fun u => !(decide (cnH RH u=0))) 4 0
def cnFst (RH:List (List Int × Int))(z:List Int):List (List Int × Int)→List Int × List Int
  | []=>([],[])
  | (r,_)::t=>rcL (lA z (-1) r) fun g=>bif decide (cnF RH g=0) then cnFst RH z t else(r,g)
def cnRowK {α:Type}(RH:List (List Int × Int))(TT:List (List Int × List (List Int × Int)))(z:List Int)(hz:Int)(f g:List Int)(base:Nat):List (List Int × Int)→List (List Int × Int)→(List (List Int × Int)→α)→α
  | [],acc,k=>k acc
  | (x,_)::t,acc,k=>rcL (lA z (-1) x) fun y=>bif decide (cnF RH y=0) then cnRowK RH TT z hz f g base t acc k else rcZ (cnE RH TT z hz f g base x y) fun v=>cnRowK RH TT z hz f g base t ((x,v)::acc) k
def cnTabK {α:Type}(RH:List (List Int × Int)):List (List Int × Int)→List (List Int × List (List Int × Int))→(List (List Int × List (List Int × Int))→α)→α
  | [],TT,k=>k TT
  | (z,hz)::t,TT,k=>match cnFst RH z RH with
    | (f,g)=>rcN (cnRch RH g f+1) fun base=>cnRowK RH TT z hz f g base RH [] fun row=>cnTabK RH t ((z,row)::TT) k
theorem cnRowK_eq {α:Type}{RH:List (List Int × Int)}{TT:List (List Int × List (List Int × Int))}{z f g:List Int}{hz:Int}{base:Nat}:∀ (L acc:List (List Int × Int)) (k:List (List Int × Int)→α),cnRowK RH TT z hz f g base L acc k=k (cnRowK RH TT z hz f g base L acc id)
  | [],acc,k=>rfl
  | (x,h)::t,acc,k=>by
    simp only[cnRowK,rcL_eq,rcZ_eq]
    cases decide (cnF RH (lA z (-1) x)=0) with
    | true=>exact cnRowK_eq t acc k
    | false=>exact cnRowK_eq t _ k
theorem cnTabK_eq {α:Type}{RH:List (List Int × Int)}:∀ (L:List (List Int × Int)) (TT:List (List Int × List (List Int × Int))) (k:List (List Int × List (List Int × Int))→α),cnTabK RH L TT k=k (cnTabK RH L TT id)
  | [],TT,k=>rfl
  | (z,hz)::t,TT,k=>by
    simp only[cnTabK,rcN_eq]
    exact(cnRowK_eq RH [] _).trans ((cnTabK_eq t _ k).trans (congrArg k (cnRowK_eq RH [] fun row=>cnTabK RH t ((z,row)::TT) id).symm))
def cnRHK {α:Type}(n:Int)(d l:List Int):List (List Int)→List (List Int × Int)→(List (List Int × Int)→α)→α
  | [],acc,k=>k acc.reverse
  | r::t,acc,k=>rcZ (ipl n d l r / 2) fun h=>cnRHK n d l t ((r,h)::acc) k
theorem cnRHK_eq {α:Type}{n:Int}{d l:List Int}:∀ (L:List (List Int)) (acc:List (List Int × Int)) (k:List (List Int × Int)→α),cnRHK n d l L acc k=k (acc.reverse++L.map fun r=>(r,ipl n d l r / 2))
  | [],acc,k=>by simp[cnRHK]
  | r::t,acc,k=>by
    rw[cnRHK,rcZ_eq,cnRHK_eq t]
    simp
def cnRH (n:Int)(d:List Int):List (List Int × Int):=(rSt n d).map fun r=>(r,ipl n d (lenF n d) r / 2)
def cnTT (n:Int)(d:List Int):List (List Int × List (List Int × Int)):=cnTabK (cnRH n d) (cnRH n d) [] id
def nF (n:Int)(d x y:List Int):Int:=cnN (cnRH n d) (cnTT n d) x y
def cnOne (RH:List (List Int × Int))(TT:List (List Int × List (List Int × Int)))(z:List Int)(hz:Int)(f g:List Int)(base:Nat)(x:List Int):Bool :=
  rcL (lA z (-1) x) fun y=>decide (cnF RH y=0) || rcZ (cnTab TT z x) fun t=>decide (t=cnE RH TT z hz f g base x y)&&(decide (-4≤t)&&(decide (t≤4)&&decide (cnTab TT z y = -t)))
def chkKnW (RH:List (List Int × Int))(one:List (List Int × List (List Int × Int))→List Int→Int→List Int→List Int→Nat→List Int→Bool):Bool :=
  cnTabK RH RH [] fun TT=>RH.all fun zh=>match zh with
    | (z,hz)=>match cnFst RH z RH with
      | (f,g)=>rcN (cnRch RH g f) fun p=>Nat.ble p 3&&(decide (1≤hz)&&(decide (hz≤3)&&RH.all fun xh=>match xh with | (x,_)=>one TT z hz f g (p+1) x))
def chkKn (n:Int)(d:List Int):Bool:=rcLL (rSt n d) fun R=>rcL (lenF n d) fun l=>cnRHK n d l R [] fun RH=>chkKnW RH (cnOne RH)
end Go.Proofs.YtbmnnbglipkidaaGreatDoor
namespace Go.Proofs.YtbmnnbglipkidaaGreatDoor
set_option maxRecDepth 100000
set_option linter.unusedVariables false
set_option linter.unusedSimpArgs false
theorem chkKn_1:cndP chkKn 1 0 256=true:=by decide +kernel
theorem chkKn_2:cndP chkKn 2 0 256=true:=by decide +kernel
theorem chkKn_3:cndP chkKn 3 0 256=true:=by decide +kernel
theorem chkKn_4a:cndP chkKn 4 0 32=true:=by decide +kernel
theorem chkKn_4b:cndP chkKn 4 32 32=true:=by decide +kernel
theorem chkKn_5a:cndP chkKn 4 64 32=true:=by decide +kernel
theorem chkKn_5b:cndP chkKn 4 96 32=true:=by decide +kernel
end Go.Proofs.YtbmnnbglipkidaaGreatDoor
namespace Go.Proofs.YtbmnnbglipkidaaGreatDoor
set_option maxRecDepth 100000
set_option linter.unusedVariables false
set_option linter.unusedSimpArgs false
theorem chkKn_6a:cndP chkKn 4 128 32=true:=by decide +kernel
theorem chkKn_6b:cndP chkKn 4 160 32=true:=by decide +kernel
theorem chkKn_7a:cndP chkKn 4 192 32=true:=by decide +kernel
theorem chkKn_7b:cndP chkKn 4 224 32=true:=by decide +kernel
theorem knd_join {chk:Int→List Int→Bool}{n a b c:Nat}(h1:cndP chk n a b=true)(h2:cndP chk n (a+b) c=true):cndP chk n a (b+c)=true:=by
  simp only[cndP,List.all_eq_true] at *
  intro d hd
  rw[List.take_add,List.mem_append,List.drop_drop] at hd
  exact hd.elim (h1 d) (h2 d)
end Go.Proofs.YtbmnnbglipkidaaGreatDoor
