/-
  Words at work on roots: roots they stay; those that fall below zero. A check by the kernel for all Cartan matrices. No program is spoken of.
-/
import Derived.Test.YtbmnnbglipkidaaGreatDoorRck
namespace Go.Proofs.YtbmnnbglipkidaaGreatDoor
set_option maxRecDepth 100000
set_option linter.unusedVariables false
set_option linter.unusedSimpArgs false
open Go.RowKit
section
variable {P:Program}{n:Nat}{env:List (Nat × Value)}{W:World}{own:List Asn}
end
theorem Qd {f:Nat→Bool}:∀ (k m:Nat),FH f k m≤m+k∧(∀ j,m≤j→j<FH f k m→f (j+1)=true)∧(FH f k m<m+k→f (FH f k m+1)=false)
  | 0,m=>⟨by simp[FH],fun j h1 h2=>by simp[FH] at h2;omega,fun h=>by simp[FH] at h⟩
  | k+1,m=>by
    rw[FH]
    split
    · rename_i h
      obtain⟨a,b,c⟩:=Qd (f:=f) k (m+1)
      refine⟨by omega,fun j h1 h2=>?_,fun h3=>c (by omega)⟩
      by_cases e:j=m
      · rw[e];exact h
      · exact b j (by omega) h2
    · rename_i h
      exact⟨by omega,fun j h1 h2=>by omega,fun _=>by simpa using h⟩
theorem Py {f:Nat→Bool}:∀ (k m p:Nat),m≤p→p<m+k→(∀ j,m≤j→j<p→f (j+1)=true)→f (p+1)=false→FH f k m=p
  | 0,m,p,h1,h2,_,_=>by omega
  | k+1,m,p,h1,h2,h3,h4=>by
    rw[FH]
    by_cases e:m=p
    · subst e
      rw[h4]
      rfl
    · rw[h3 m (Nat.le_refl _) (by omega),if_pos rfl]
      exact Py k (m+1) p (by omega) (by omega) (fun j a b=>h3 j (by omega) b) h4
def bk (n:Int)(v x:List Int)(k:Int)(r:List Int):Prop:=(v.length:Int)=n∧∀ j,j<n.toNat→v.getD j 0=x.getD j 0+k*r.getD j 0
theorem RtOk.tens {n:Int}{d x:List Int}(h:RtOk n d)(hx:rtB (rSt n d) x=true):(x.length:Int)=n∧ten x:=h.ent2 hx
theorem B5 {L:List (List Int)}(x:List Int):rtB L (Av x)=rtB L x:=by rw[rtB,rtB,Fh,Bool.or_comm]
section
variable {n:Int}{d x y r:List Int}{i:Nat}
end
theorem bk.eq {n:Int}{v w x r:List Int}{k:Int}(h:bk n v x k r)(g:bk n w x k r):v=w:=A0 (by have:=h.1;have:=g.1;omega) fun j hj=>by
  have:=h.1
  rw[h.2 j (by omega),g.2 j (by omega)]
theorem O4 {n:Int}{x:List Int}(hx:(x.length:Int)=n)(h:ten x):Dk n x=true:=Ey hx fun k _=>by have:=h k;omega
def lA (x:List Int)(k:Int)(y:List Int):List Int:=List.zipWith (fun a b=>a+k*b) x y
def sP:List Int→Int
  | []=>0
  | a::t=>a+sP t
def lq:List Int→List Int→Bool
  | [],[]=>true
  | a::s,b::t=>decide (a=b)&&lq s t
  | _,_=>false
theorem Qr:∀ {x y:List Int},lq x y=decide (x=y)
  | [],[]=>rfl
  | [],b::t=>rfl
  | a::s,[]=>rfl
  | a::s,b::t=>by
    rw[lq,Qr]
    by_cases h:a=b
    · by_cases h2:s=t
      · simp[h,h2]
      · simp[h2]
    · simp[h]
theorem AF {x y:List Int}{k:Int}(h:y.length=x.length):(lA x k y).length=x.length:=by
  rw[lA,List.length_zipWith]
  omega
theorem BM {x y:List Int}{k:Int}{j:Nat}(hj:j<x.length)(h:y.length=x.length):(lA x k y).getD j 0=x.getD j 0+k*y.getD j 0:=by
  have hy:j<y.length:=by omega
  simp[lA,List.getD,List.getElem?_zipWith,hj,hy]
theorem Te:∀ {x y:List Int} {k:Int},y.length=x.length→sP (lA x k y)=sP x+k*sP y
  | [],[],k,_=>by simp[lA,sP]
  | [],b::t,k,h=>by simp at h
  | a::s,[],k,h=>by simp at h
  | a::s,b::t,k,h=>by
    have h1:=Te (x:=s) (y:=t) (k:=k) (by simpa using h)
    have e:lA (a::s) k (b::t)=(a+k*b)::lA s k t:=rfl
    rw[e,sP,sP,sP,h1,Int.mul_add]
    omega
theorem CP:∀ x:List Int,sP (Av x) = -(sP x)
  | []=>rfl
  | a::t=>by
    have h1:=CP t
    have e:Av (a::t)=(0 - a)::Av t:=rfl
    rw[e,sP,sP,h1]
    omega
def fT (x:List Int):Prop:=∀ j, -50≤x.getD j 0∧x.getD j 0≤50
theorem Fl {x:List Int}(h:ten x):fT x:=fun j=>by have:=h j;omega
theorem U3 {x y:List Int}{k:Int}(hl:y.length=x.length)(hk : -40≤k∧k≤40)(hx:fT x)(hy:fT y):Af x k y=lA x k y:=by
  refine A0 (by rw[AQ,AF hl]) fun j hj=>?_
  rw[AQ] at hj
  have h1:=hx j
  have h2:=hy j
  have h3:=A9 (a:=k) (b:=y.getD j 0) (A:=40) (B:=50) (by omega) (by omega)
  rw[Gn hj hl,BM hj hl,Aj (x:=k*y.getD j 0) (by omega) (by omega),Aj (by omega) (by omega)]
theorem bs {x y:List Int}{k:Int}(hl:y.length=x.length)(hk : -4≤k∧k≤4)(hx:ten x)(hy:ten y):fT (lA x k y):=fun j=>by
  by_cases hj:j<x.length
  · have h1:=hx j
    have h2:=hy j
    have h3:=A9 (a:=k) (b:=y.getD j 0) (A:=4) (B:=10) (by omega) (by omega)
    rw[BM hj hl]
    omega
  · have:(lA x k y).length≤j:=by rw[AF hl];omega
    simp[List.getD,List.getElem?_eq_none this]
theorem Rj {x:List Int}(hx:∀ j,j<x.length → -1000≤x.getD j 0∧x.getD j 0≤1000)(hl:x.length≤1000):∀ m:Nat,m≤x.length→(List.range m).foldl (fun(s:Int) (i:Nat)=>IntKind.i64.wrap (s+x.getD i 0)) 0=sP (x.take m) ∧ -(1000*(m:Int))≤sP (x.take m)∧sP (x.take m)≤1000*(m:Int)
  | 0,_=>by simp[sP]
  | m+1,h=>by
    obtain⟨h1,h2⟩:=Rj hx hl m (by omega)
    have h3:=hx m (by omega)
    have e:x.take (m+1)=x.take m++[x.getD m 0]:=BU (d:=0) (by omega)
    have e2:∀ (a:List Int) (b:Int),sP (a++[b])=sP a+b:=fun a b=>by
      induction a with
      | nil=>show b+0=0+b;omega
      | cons c t ih=>rw[List.cons_append,sP,sP,ih];omega
    rw[A6,h1,e,e2,Aj (by omega) (by omega)]
    exact⟨rfl,by omega,by omega⟩
theorem YB {x:List Int}(hx:∀ j,j<x.length → -1000≤x.getD j 0∧x.getD j 0≤1000)(hl:x.length≤1000):Ci x=sP x:=by
  rw[Ci,(Rj hx hl x.length (Nat.le_refl _)).1,List.take_length]
def cnF:List (List Int × Int)→List Int→Int
  | [],_=>0
  | (r,h)::t,u=>bif lq r u then h else cnF t u
def Zh (RH:List (List Int × Int))(u:List Int):Int:=bif decide (0<sP u) then cnF RH u else KY (Av u) fun v=>cnF RH v
def gO:List (List Int × List (List Int × Int))→List Int→List (List Int × Int)
  | [],_=>[]
  | (r,w)::t,z=>bif lq r z then w else gO t z
def KP (TT:List (List Int × List (List Int × Int)))(z x:List Int):Int:=cnF (gO TT z) x
def Sz (RH:List (List Int × Int))(TT:List (List Int × List (List Int × Int)))(x y z:List Int)(hz:Int):Int :=
  bif decide (0<sP z) then KY (Av y) fun y' => -((hz*KP TT x y').tdiv (cnF RH x))
  else KY (Av y) fun y'=>KY (Av z) fun z'=>(hz*KP TT y' z').tdiv (cnF RH y')
def fU (RH:List (List Int × Int))(TT:List (List Int × List (List Int × Int)))(x y:List Int):Int :=
  KY (lA x 1 y) fun z=>bI (Zh RH z) fun hz=>bif decide (hz=0) then 0 else
    bif decide (0<sP x) then(bif decide (0<sP y) then KP TT z x else Sz RH TT x y z hz)
    else bif decide (0<sP y) then -(Sz RH TT y x z hz) else KY (Av z) fun z'=>KY (Av x) fun x' => -(KP TT z' x')
def Xn (RH:List (List Int × Int))(TT:List (List Int × List (List Int × Int)))(a b c d:List Int):Int :=
  KY (lA a 1 b) fun u=>bI (Zh RH u) fun hu=>bif decide (hu=0) then 0 else(6*fU RH TT a b*fU RH TT c d).tdiv hu
def fR (RH:List (List Int × Int))(TT:List (List Int × List (List Int × Int)))(z:List Int)(hz:Int)(f g:List Int)(base:Nat)(x y:List Int):Int :=
  bif lq x f then(base:Int) else bif lq y f then -(base:Int) else
    KY (Av f) fun f'=>KY (Av g) fun g'=>(hz*(Xn RH TT y f' x g'+Xn RH TT f' x y g')).tdiv (6*(base:Int))
def cnRch (RH:List (List Int × Int))(x r:List Int):Nat:=FH (fun m=>KY (lA x (-(m:Int)) r) fun u => !(decide (Zh RH u=0))) 4 0
def C1 (RH:List (List Int × Int))(z:List Int):List (List Int × Int)→List Int × List Int
  | []=>([],[])
  | (r,_)::t=>KY (lA z (-1) r) fun g=>bif decide (cnF RH g=0) then C1 RH z t else(r,g)
def GN {α:Type}(RH:List (List Int × Int))(TT:List (List Int × List (List Int × Int)))(z:List Int)(hz:Int)(f g:List Int)(base:Nat):List (List Int × Int)→List (List Int × Int)→(List (List Int × Int)→α)→α
  | [],acc,k=>k acc
  | (x,_)::t,acc,k=>KY (lA z (-1) x) fun y=>bif decide (cnF RH y=0) then GN RH TT z hz f g base t acc k else bI (fR RH TT z hz f g base x y) fun v=>GN RH TT z hz f g base t ((x,v)::acc) k
def FO {α:Type}(RH:List (List Int × Int)):List (List Int × Int)→List (List Int × List (List Int × Int))→(List (List Int × List (List Int × Int))→α)→α
  | [],TT,k=>k TT
  | (z,hz)::t,TT,k=>match C1 RH z RH with
    | (f,g)=>el (cnRch RH g f+1) fun base=>GN RH TT z hz f g base RH [] fun row=>FO RH t ((z,row)::TT) k
theorem Fi {α:Type}{RH:List (List Int × Int)}{TT:List (List Int × List (List Int × Int))}{z f g:List Int}{hz:Int}{base:Nat}:∀ (L acc:List (List Int × Int)) (k:List (List Int × Int)→α),GN RH TT z hz f g base L acc k=k (GN RH TT z hz f g base L acc id)
  | [],acc,k=>rfl
  | (x,h)::t,acc,k=>by
    simp only[GN,B3,GW]
    cases decide (cnF RH (lA z (-1) x)=0) with
    | true=>exact Fi t acc k
    | false=>exact Fi t _ k
theorem LX {α:Type}{RH:List (List Int × Int)}:∀ (L:List (List Int × Int)) (TT:List (List Int × List (List Int × Int))) (k:List (List Int × List (List Int × Int))→α),FO RH L TT k=k (FO RH L TT id)
  | [],TT,k=>rfl
  | (z,hz)::t,TT,k=>by
    simp only[FO,ML]
    exact(Fi RH [] _).trans ((LX t _ k).trans (congrArg k (Fi RH [] fun row=>FO RH t ((z,row)::TT) id).symm))
def LJ {α:Type}(n:Int)(d l:List Int):List (List Int)→List (List Int × Int)→(List (List Int × Int)→α)→α
  | [],acc,k=>k acc.reverse
  | r::t,acc,k=>bI (Tg n d l r / 2) fun h=>LJ n d l t ((r,h)::acc) k
theorem Ou {α:Type}{n:Int}{d l:List Int}:∀ (L:List (List Int)) (acc:List (List Int × Int)) (k:List (List Int × Int)→α),LJ n d l L acc k=k (acc.reverse++L.map fun r=>(r,Tg n d l r / 2))
  | [],acc,k=>by simp[LJ]
  | r::t,acc,k=>by
    rw[LJ,GW,Ou t]
    simp
def Bl (n:Int)(d:List Int):List (List Int × Int):=(rSt n d).map fun r=>(r,Tg n d (A3 n d) r / 2)
def Oj (n:Int)(d:List Int):List (List Int × List (List Int × Int)):=FO (Bl n d) (Bl n d) [] id
def nF (n:Int)(d x y:List Int):Int:=fU (Bl n d) (Oj n d) x y
def ay (RH:List (List Int × Int))(TT:List (List Int × List (List Int × Int)))(z:List Int)(hz:Int)(f g:List Int)(base:Nat)(x:List Int):Bool :=
  KY (lA z (-1) x) fun y=>decide (cnF RH y=0) || bI (KP TT z x) fun t=>decide (t=fR RH TT z hz f g base x y)&&(decide (-4≤t)&&(decide (t≤4)&&decide (KP TT z y = -t)))
def M7 (RH:List (List Int × Int))(one:List (List Int × List (List Int × Int))→List Int→Int→List Int→List Int→Nat→List Int→Bool):Bool :=
  FO RH RH [] fun TT=>RH.all fun zh=>match zh with
    | (z,hz)=>match C1 RH z RH with
      | (f,g)=>el (cnRch RH g f) fun p=>Nat.ble p 3&&(decide (1≤hz)&&(decide (hz≤3)&&RH.all fun xh=>match xh with | (x,_)=>one TT z hz f g (p+1) x))
def EB (n:Int)(d:List Int):Bool:=Ux (rSt n d) fun R=>KY (A3 n d) fun l=>LJ n d l R [] fun RH=>M7 RH (ay RH)
theorem YX:Cd EB 1 0 256=true:=by decide +kernel
theorem Zl:Cd EB 2 0 256=true:=by decide +kernel
theorem Ys:Cd EB 3 0 256=true:=by decide +kernel
theorem UZ:Cd EB 4 0 32=true:=by decide +kernel
theorem Vr:Cd EB 4 32 32=true:=by decide +kernel
theorem Vq:Cd EB 4 64 32=true:=by decide +kernel
theorem Vo:Cd EB 4 96 32=true:=by decide +kernel
theorem S9:Cd EB 4 128 32=true:=by decide +kernel
theorem TE:Cd EB 4 160 32=true:=by decide +kernel
theorem T8:Cd EB 4 192 32=true:=by decide +kernel
theorem Tq:Cd EB 4 224 32=true:=by decide +kernel
theorem GB {chk:Int→List Int→Bool}{n a b c:Nat}(h1:Cd chk n a b=true)(h2:Cd chk n (a+b) c=true):Cd chk n a (b+c)=true:=by
  simp only[Cd,List.all_eq_true] at *
  intro d hd
  rw[List.take_add,List.mem_append,List.drop_drop] at hd
  exact hd.elim (h1 d) (h2 d)
theorem Zg {chk:Int→List Int→Bool}(h1:Cd chk 1 0 256=true)(h2:Cd chk 2 0 256=true)(h3:Cd chk 3 0 256=true)
    (h4:Cd chk 4 0 32=true) (h5:Cd chk 4 32 32=true) (h6:Cd chk 4 64 32=true) (h7:Cd chk 4 96 32=true) (h8:Cd chk 4 128 32=true) (h9:Cd chk 4 160 32=true) (ha:Cd chk 4 192 32=true) (hb:Cd chk 4 224 32=true)
    {n:Int} {d:List Int} (hS:(Ax n d).isSome=true):chk n d=true :=
  Zi h1 h2 h3 (GB (b:=32) (c:=32) h4 h5) (GB (b:=32) (c:=32) h6 h7) (GB (b:=32) (c:=32) h8 h9) (GB (b:=32) (c:=32) ha hb) hS
theorem AG {L:List (List Int)}{x:List Int}:L.contains x=true↔x∈L:=List.contains_iff_mem
theorem QC {h:List Int→Int}{u:List Int}:∀ L:List (List Int),cnF (L.map fun r=>(r,h r)) u=if L.contains u then h u else 0
  | []=>rfl
  | r::t=>by
    rw[List.map_cons,cnF,QC t,Qr,List.contains_cons]
    by_cases e:r=u
    · subst e
      simp
    · have e2:(u==r)=false:=by simpa using fun h=>e h.symm
      rw[decide_eq_false e,e2]
      rfl
def hn (n:Int)(d u:List Int):Int:=Tg n d (A3 n d) u / 2
theorem GI {n:Int}{d u:List Int}:cnF (Bl n d) u=if (rSt n d).contains u then hn n d u else 0:=QC _
section
variable {n:Int}{d:List Int}
theorem Ay (hS:(Ax n d).isSome=true){x:List Int}(hx:x∈rSt n d):x.length=n.toNat∧ten x:=by
  obtain⟨h1,h2⟩:=(rtOk hS).smem hx
  exact⟨h1,fun j=>by have:=h2 j;omega⟩
theorem TN:∀ {x:List Int},(∀ j,0≤x.getD j 0)→0≤sP x∧∀ j,x.getD j 0≤sP x
  | [],_=>⟨Int.le_refl _,fun j=>by simp[sP]⟩
  | a::t,h=>by
    have h0:=h 0
    obtain⟨h1,h2⟩:=TN (x:=t) fun j=>by have:=h (j+1);simpa [List.getD] using this
    have h3:0≤a:=by simpa [List.getD] using h0
    refine⟨by rw[sP];omega,fun j=>?_⟩
    rw[sP]
    cases j with
    | zero=>simp[List.getD];omega
    | succ j=>have:=h2 j;simp[List.getD] at this ⊢;omega
theorem BS (hS:(Ax n d).isSome=true){x:List Int}(hx:x∈rSt n d):1≤sP x:=by
  obtain⟨h1,h2⟩:=(rtOk hS).smem hx
  obtain⟨k,hk,h3⟩:=(PG hS).nz x hx
  have:=(TN fun j=>(h2 j).1).2 k
  omega
theorem bn (hS:(Ax n d).isSome=true){x:List Int}(hx:x∈rSt n d) : ¬ Av x∈rSt n d:=fun h=>by
  have h1:=BS hS hx
  have h2:=BS hS h
  rw[CP] at h2
  omega
theorem Au {R:List (List Int)}{x:List Int}(hx:x∈R):rtB R x=true:=by rw[rtB,AG.2 hx];rfl
theorem B6 {R:List (List Int)}{x:List Int}(hx:x∈R):rtB R (Av x)=true:=by rw[B5];exact Au hx
theorem rt_or {R:List (List Int)}{x:List Int}(hx:rtB R x=true):x∈R∨Av x∈R:=by
  rw[rtB,Bool.or_eq_true,AG,AG] at hx
  exact hx
theorem CJ (hS:(Ax n d).isSome=true){x:List Int}(hx:rtB (rSt n d) x=true)(h:0<sP x):x∈rSt n d:=by
  rcases rt_or hx with h1 | h1
  · exact h1
  · have:=BS hS h1
    rw[CP] at this
    omega
theorem CG (hS:(Ax n d).isSome=true){x:List Int}(hx:rtB (rSt n d) x=true)(h : ¬ 0<sP x):Av x∈rSt n d∧sP x<0:=by
  rcases rt_or hx with h1 | h1
  · have:=BS hS h1
    omega
  · have:=BS hS h1
    rw[CP] at this
    exact⟨h1,by omega⟩
theorem dT (hS:(Ax n d).isSome=true){x:List Int}(hx:rtB (rSt n d) x=true):0<sP x∨sP x<0:=by
  by_cases h:0<sP x
  · exact .inl h
  · exact .inr (CG hS hx h).2
theorem L0 (u:List Int):hn n d (Av u)=hn n d u:=by rw[hn,hn,Ly]
theorem PJ (hS:(Ax n d).isSome=true)(u:List Int):Zh (Bl n d) u=if rtB (rSt n d) u then hn n d u else 0:=by
  rw[Zh,B3,GI,GI,L0,rtB]
  by_cases h:0<sP u
  · have h2:(rSt n d).contains (Av u)=false:=by
      cases e:(rSt n d).contains (Av u) with
      | false=>rfl
      | true =>
        have:=BS hS (AG.1 e)
        rw[CP] at this
        omega
    rw[decide_eq_true h,h2,Bool.or_false]
    rfl
  · have h2:(rSt n d).contains u=false:=by
      cases e:(rSt n d).contains u with
      | false=>rfl
      | true =>
        have:=BS hS (AG.1 e)
        omega
    rw[decide_eq_false h,h2,Bool.false_or]
    rfl
theorem MK (hS:(Ax n d).isSome=true){u:List Int}(hu:rtB (rSt n d) u=true):1≤hn n d u:=by
  have key:∀ {v},v∈rSt n d→1≤hn n d v:=fun {v} hv=>by
    have:=(PG hS).pos v hv
    rw[hn]
    omega
  rcases rt_or hu with h | h
  · exact key h
  · have:=key h
    rwa [L0] at this
theorem O8 (hS:(Ax n d).isSome=true)(u:List Int):decide (Zh (Bl n d) u=0) = !(rtB (rSt n d) u):=by
  rw[PJ hS]
  cases e:rtB (rSt n d) u with
  | false=>simp
  | true =>
    have:=MK hS e
    simp
    omega
theorem V6 (hS:(Ax n d).isSome=true)(u:List Int):decide (cnF (Bl n d) u=0) = !((rSt n d).contains u):=by
  rw[GI]
  cases e:(rSt n d).contains u with
  | false=>simp
  | true =>
    have:=MK hS (Au (AG.1 e))
    simp
    omega
def tb (n:Int)(d z x:List Int):Int:=KP (Oj n d) z x
theorem FE (hS:(Ax n d).isSome=true)(x y:List Int):nF n d x y=if rtB (rSt n d) (lA x 1 y)=true then
    (if 0<sP x then(if 0<sP y then tb n d (lA x 1 y) x else Sz (Bl n d) (Oj n d) x y (lA x 1 y) (hn n d (lA x 1 y)))
    else if 0<sP y then -(Sz (Bl n d) (Oj n d) y x (lA x 1 y) (hn n d (lA x 1 y))) else -(tb n d (Av (lA x 1 y)) (Av x))) else 0:=by
  rw[nF,fU,B3,GW,B3,B3,O8 hS,PJ hS]
  cases rtB (rSt n d) (lA x 1 y) with
  | false=>rfl
  | true =>
    by_cases h1:0<sP x
    · by_cases h2:0<sP y
      · simp[h1,h2,tb]
      · simp[h1,h2]
    · by_cases h2:0<sP y
      · simp[h1,h2]
      · simp[h1,h2,tb]
theorem XA (hS:(Ax n d).isSome=true){x y z:List Int}(hx:x∈rSt n d)(hy:Av y∈rSt n d)(h:Int):Sz (Bl n d) (Oj n d) x y z h=if 0<sP z then -((h*tb n d x (Av y)).tdiv (hn n d x)) else(h*tb n d (Av y) (Av z)).tdiv (hn n d y):=by
  rw[Sz,B3,B3,B3,GI,GI,if_pos (AG.2 hx),if_pos (AG.2 hy),L0]
  by_cases h1:0<sP z
  · simp[h1,tb]
  · simp[h1,tb]
theorem Y0 {one:List (List Int × Int)→List (List Int × List (List Int × Int))→List Int→Int→List Int→List Int→Nat→List Int→Bool}
    (h:(Ux (rSt n d) fun R=>KY (A3 n d) fun l=>LJ n d l R [] fun RH=>M7 RH (one RH))=true) {z:List Int} (hz:z∈rSt n d) :
    cnRch (Bl n d) (C1 (Bl n d) z (Bl n d)).2 (C1 (Bl n d) z (Bl n d)).1≤3∧hn n d z≤3∧∀ x∈rSt n d,one (Bl n d) (Oj n d) z (hn n d z) (C1 (Bl n d) z (Bl n d)).1 (C1 (Bl n d) z (Bl n d)).2 (cnRch (Bl n d) (C1 (Bl n d) z (Bl n d)).2 (C1 (Bl n d) z (Bl n d)).1+1) x=true:=by
  rw[Qz,B3,Ou] at h
  change M7 (Bl n d) (one (Bl n d))=true at h
  rw[M7,LX] at h
  change ((Bl n d).all _)=true at h
  rw[List.all_eq_true] at h
  have hm:∀ {x},x∈rSt n d→(x,hn n d x)∈Bl n d:=fun {x} hx=>List.mem_map.2 ⟨x,hx,rfl⟩
  have h1:=h _ (hm hz)
  simp only[ML,Bool.and_eq_true,decide_eq_true_eq,List.all_eq_true] at h1
  obtain⟨a1,a2,a3,a4⟩:=h1
  exact⟨Nat.le_of_ble_eq_true a1,a3,fun x hx=>a4 _ (hm hx)⟩
theorem QO (hS:(Ax n d).isSome=true):EB n d=true:=Zg YX Zl Ys UZ Vr Vq Vo S9 TE T8 Tq hS
structure Dec (n:Int)(d z x y:List Int):Prop where
  hz:z∈rSt n d
  hx:x∈rSt n d
  hy:y∈rSt n d
  eq:y=lA z (-1) x
theorem Mx {x y:List Int}(h:y.length=x.length):lA (lA x 1 y) (-1) x=y:=A0 (by rw[AF (by rw[AF h]),AF h,h]) fun j hj=>by
  rw[AF (by rw[AF h]),AF h] at hj
  rw[BM (by rw[AF h];exact hj) (by rw[AF h]),BM hj h]
  omega
theorem VC {z x:List Int}(h:x.length=z.length):lA x 1 (lA z (-1) x)=z:=A0 (by rw[AF (by rw[AF h,h]),h]) fun j hj=>by
  rw[AF (by rw[AF h,h])] at hj
  rw[BM hj (by rw[AF h,h]),BM (by omega) h]
  omega
theorem Ct {x y:List Int}(h:y.length=x.length):lA x 1 y=lA y 1 x:=A0 (by rw[AF h,AF h.symm,h]) fun j hj=>by
  rw[AF h] at hj
  rw[BM hj h,BM (by omega) h.symm]
  omega
theorem QD {x y:List Int}(k:Int)(h:y.length=x.length):lA x k (Av y)=lA x (-k) y:=A0 (by rw[AF (by rw[AC];exact h),AF h]) fun j hj=>by
  rw[AF (by rw[AC];exact h)] at hj
  rw[BM hj (by rw[AC];exact h),BM hj h,Bw,Int.mul_neg,Int.neg_mul]
theorem fj {x y:List Int}(k:Int)(h:y.length=x.length):Av (lA x k y)=lA (Av x) (-k) y:=A0 (by rw[AC,AF h,AF (by rw[AC];exact h),AC]) fun j hj=>by
  rw[AC,AF h] at hj
  rw[Bw,BM hj h,BM (by rw[AC];exact hj) (by rw[AC];exact h),Bw,Int.neg_mul]
  omega
theorem Dec.sum (hS:(Ax n d).isSome=true){z x y:List Int}(h:Dec n d z x y):lA x 1 y=z∧lA y 1 x=z∧x=lA z (-1) y:=by
  have h1:=(Ay hS h.hz).1
  have h2:=(Ay hS h.hx).1
  have h3:=(Ay hS h.hy).1
  have e:lA x 1 y=z:=by rw[h.eq];exact VC (by omega)
  have e2:lA y 1 x=z:=by rw[← Ct (by omega)];exact e
  exact⟨e,e2,by rw[← e2];exact(Mx (by omega)).symm⟩
theorem GD (hS:(Ax n d).isSome=true){x y:List Int}(hx:x∈rSt n d)(hy:y∈rSt n d)(hz:lA x 1 y∈rSt n d):Dec n d (lA x 1 y) x y:=by
  have h2:=(Ay hS hx).1
  have h3:=(Ay hS hy).1
  exact⟨hz,hx,hy,(Mx (by omega)).symm⟩
theorem LH (hS:(Ax n d).isSome=true){z x y:List Int}(h:Dec n d z x y) :
    tb n d z x=fR (Bl n d) (Oj n d) z (hn n d z) (C1 (Bl n d) z (Bl n d)).1 (C1 (Bl n d) z (Bl n d)).2 (cnRch (Bl n d) (C1 (Bl n d) z (Bl n d)).2 (C1 (Bl n d) z (Bl n d)).1+1) x y ∧
    (-4≤tb n d z x∧tb n d z x≤4)∧tb n d z y = -(tb n d z x):=by
  have h1:=(Y0 (QO hS) h.hz).2.2 x h.hx
  rw[ay,B3,GW,← h.eq,V6 hS,AG.2 h.hy] at h1
  simp only[Bool.not_true,Bool.false_or,Bool.and_eq_true,decide_eq_true_eq] at h1
  obtain⟨a1,a2,a3,a4⟩:=h1
  exact⟨a1,⟨a2,a3⟩,a4⟩
theorem Ce (hS:(Ax n d).isSome=true){u:List Int}(hu:rtB (rSt n d) u=true):1≤hn n d u∧hn n d u≤3:=by
  refine⟨MK hS hu,?_⟩
  rcases rt_or hu with h | h
  · exact(Y0 (QO hS) h).2.1
  · have:=(Y0 (QO hS) h).2.1
    rwa [L0] at this
end
section
variable {n:Int}{d:List Int}
theorem Aw (hS:(Ax n d).isSome=true){x:List Int}(hx:rtB (rSt n d) x=true):x.length=n.toNat∧ten x∧n.toNat≤4:=by
  have h:=rtOk hS
  have hlo:=h.lo
  have hrk:=h.rk
  obtain⟨h1,h2⟩:=h.tens hx
  exact⟨by omega,h2,hrk⟩
theorem NI (hS:(Ax n d).isSome=true){x y:List Int}{k:Int}(hk:k=1∨k = -1)(hx:rtB (rSt n d) x=true)(hy:rtB (rSt n d) y=true):Af x k y=lA x k y:=by
  obtain⟨x1,x2,_⟩:=Aw hS hx
  obtain⟨y1,y2,_⟩:=Aw hS hy
  exact U3 (by omega) (by omega) (Fl x2) (Fl y2)
theorem Oo (hS:(Ax n d).isSome=true){x:List Int}(hx:rtB (rSt n d) x=true):Ci x=sP x:=by
  obtain⟨x1,x2,x3⟩:=Aw hS hx
  exact YB (fun j _=>by have:=x2 j;omega) (by omega)
theorem DV (hS:(Ax n d).isSome=true){x:List Int}(hx:rtB (rSt n d) x=true):Fe x=Av x:=by
  obtain⟨x1,x2,x3⟩:=Aw hS hx
  have hlo:=(rtOk hS).lo
  exact KC (n:=n) (Ey (by omega) fun k _=>by have:=x2 k;omega)
theorem Fz (hS:(Ax n d).isSome=true){x:List Int}(hx:rtB (rSt n d) x=true):Dm n d x=hn n d x:=by
  obtain⟨x1,x2,x3⟩:=Aw hS hx
  have hlo:=(rtOk hS).lo
  have hw:Dk n x=true:=Ey (by omega) fun k _=>by have:=x2 k;omega
  have h2:=TS hS hw hx
  have hb:=PH hS hw hw
  rw[Dm,hn,← Rc hS hw,Int.tdiv_eq_ediv_of_nonneg (by omega),Aj (by omega) (by omega)]
theorem UM (hS:(Ax n d).isSome=true){x:List Int}(hx:rtB (rSt n d) x=true):EJ x=decide (0<sP x):=by
  by_cases h:0<sP x
  · rw[decide_eq_true h]
    obtain⟨_,h2⟩:=(rtOk hS).smem (CJ hS hx h)
    simp only[EJ,Bool.not_eq_true',List.any_eq_false,decide_eq_true_eq]
    intro y hy
    obtain⟨k,hk,rfl⟩:=List.mem_iff_getElem.1 hy
    have e2:x.getD k 0=x[k]:=by simp[List.getD,hk]
    have:=h2 k
    omega
  · rw[decide_eq_false h]
    obtain⟨h1,h2⟩:=CG hS hx h
    obtain⟨k,hk,h3⟩:=(PG hS).nz _ h1
    rw[AC] at hk
    rw[Bw] at h3
    simp only[EJ,Bool.not_eq_false',List.any_eq_true,decide_eq_true_eq]
    have e2:x.getD k 0=x[k]:=by simp[List.getD,hk]
    exact⟨x[k],List.getElem_mem hk,by omega⟩
theorem Bm (hS:(Ax n d).isSome=true){x y:List Int}(hx:rtB (rSt n d) x=true)(hy:rtB (rSt n d) y=true):y.length=x.length:=by
  have h1:=(Aw hS hx).1
  have h2:=(Aw hS hy).1
  omega
theorem MH (hS:(Ax n d).isSome=true){x y:List Int}(hx:rtB (rSt n d) x=true)(hy:rtB (rSt n d) y=true):sP (lA x 1 y)=sP x+sP y:=by rw[Te (Bm hS hx hy),Int.one_mul]
theorem L2 (hS:(Ax n d).isSome=true){x y:List Int}(h:rtB (rSt n d) (lA x 1 y)=false):nF n d x y=0:=by
  rw[FE hS,h]
  rfl
theorem LD (hS:(Ax n d).isSome=true){x y:List Int}(hz:rtB (rSt n d) (lA x 1 y)=true)(h1:0<sP x)(h2:0<sP y):nF n d x y=tb n d (lA x 1 y) x:=by
  rw[FE hS,if_pos hz,if_pos h1,if_pos h2]
theorem Ev (hS:(Ax n d).isSome=true){x y:List Int}(hx:rtB (rSt n d) x=true)(hy:rtB (rSt n d) y=true):lA (Av x) 1 (Av y)=Av (lA x 1 y):=by
  have h:=Bm hS hx hy
  rw[fj 1 h,QD 1 (by rw[AC];exact h)]
theorem NM (hS:(Ax n d).isSome=true){x y:List Int}(hx:rtB (rSt n d) x=true)(hy:rtB (rSt n d) y=true)(h1 : ¬ 0<sP x)(h2 : ¬ 0<sP y):nF n d x y = -(nF n d (Av x) (Av y)):=by
  have a1:=(CG hS hx h1).2
  have a2:=(CG hS hy h2).2
  rw[FE hS x y,FE hS (Av x),Ev hS hx hy,B5,CP,CP]
  by_cases h:rtB (rSt n d) (lA x 1 y)=true
  · rw[if_pos h,if_pos h,if_neg h1,if_neg h2,if_pos (by omega),if_pos (by omega)]
  · rw[if_neg h,if_neg h]
    rfl
theorem Qt (hS:(Ax n d).isSome=true){x y:List Int}(hx:rtB (rSt n d) x=true)(hy:rtB (rSt n d) y=true)(h1 : ¬ 0<sP x)(h2:0<sP y):nF n d x y = -(nF n d y x):=by
  rw[FE hS x y,FE hS y x,Ct (x:=y) (Bm hS hy hx)]
  by_cases h:rtB (rSt n d) (lA x 1 y)=true
  · rw[if_pos h,if_pos h,if_neg h1,if_pos h2,if_pos h2,if_neg h1]
  · rw[if_neg h,if_neg h]
    rfl
theorem Ry (hS:(Ax n d).isSome=true){x y:List Int}(hx:rtB (rSt n d) x=true)(hy:rtB (rSt n d) y=true)(hz:rtB (rSt n d) (lA x 1 y)=true)(h1:0<sP x)(h2 : ¬ 0<sP y) :
    nF n d x y=if 0<sP (lA x 1 y) then -((hn n d (lA x 1 y)*tb n d x (Av y)).tdiv (hn n d x)) else(hn n d (lA x 1 y)*tb n d (Av y) (Av (lA x 1 y))).tdiv (hn n d y):=by
  rw[FE hS,if_pos hz,if_pos h1,if_neg h2]
  exact XA hS (CJ hS hx h1) (CG hS hy h2).1 _
theorem cC (hS:(Ax n d).isSome=true){x y:List Int}(hx:rtB (rSt n d) x=true)(hy:rtB (rSt n d) y=true):lA y 1 (Av (lA x 1 y))=Av x:=by
  have h:=Bm hS hx hy
  refine A0 (by rw[AF (by rw[AC,AF h,h]),AC,h]) fun j hj=>?_
  rw[AF (by rw[AC,AF h,h])] at hj
  rw[BM hj (by rw[AC,AF h,h]),Bw,Bw,BM (by omega) h]
  omega
theorem HY (hS:(Ax n d).isSome=true){x y:List Int}(hx:rtB (rSt n d) x=true)(hy:rtB (rSt n d) y=true):lA (Av y) 1 (lA x 1 y)=x:=by
  have h:=Bm hS hx hy
  refine A0 (by rw[AF (by rw[AC,AF h,h]),AC,h]) fun j hj=>?_
  rw[AF (by rw[AC,AF h,h]),AC] at hj
  rw[BM (by rw[AC];exact hj) (by rw[AC,AF h,h]),Bw,BM (by omega) h]
  omega
theorem Mz (hS:(Ax n d).isSome=true){x y:List Int}(hx:rtB (rSt n d) x=true)(hy:rtB (rSt n d) y=true):lA (Av (lA x 1 y)) 1 x=Av y:=by
  have h:=Bm hS hx hy
  refine A0 (by rw[AF (by rw[AC,AF h]),AC,AF h,AC,h]) fun j hj=>?_
  rw[AF (by rw[AC,AF h]),AC,AF h] at hj
  rw[BM (by rw[AC,AF h];exact hj) (by rw[AC,AF h]),Bw,Bw,BM hj h]
  omega
theorem bF (hS:(Ax n d).isSome=true){x y:List Int}(hx:rtB (rSt n d) x=true)(hy:rtB (rSt n d) y=true)(hz:rtB (rSt n d) (lA x 1 y)=true)(h1:0<sP x)(h2 : ¬ 0<sP y)(h3:0<sP (lA x 1 y)) :
    nF n d x y=(hn n d (lA x 1 y)*nF n d y (Av (lA x 1 y))).tdiv (hn n d x):=by
  have hmz:rtB (rSt n d) (Av (lA x 1 y))=true:=by rw[B5];exact hz
  have e:nF n d y (Av (lA x 1 y)) = -(tb n d x (Av y)):=by
    rw[FE hS,cC hS hx hy,B5,if_pos hx,if_neg h2,if_neg (by rw[CP];omega),Fh]
  rw[Ry hS hx hy hz h1 h2,if_pos h3,e,Int.mul_neg,Int.neg_tdiv]
theorem aR (hS:(Ax n d).isSome=true){x y:List Int}(hx:rtB (rSt n d) x=true)(hy:rtB (rSt n d) y=true)(hz:rtB (rSt n d) (lA x 1 y)=true)(h1:0<sP x)(h2 : ¬ 0<sP y)(h3:0<sP (lA x 1 y)) :
    nF n d x y = -((hn n d (lA x 1 y)*nF n d (Av y) (lA x 1 y)).tdiv (hn n d x)):=by
  have a2:=(CG hS hy h2).2
  have e:nF n d (Av y) (lA x 1 y)=tb n d x (Av y):=by
    rw[FE hS,HY hS hx hy,if_pos hx,if_pos (by rw[CP];omega),if_pos h3]
  rw[Ry hS hx hy hz h1 h2,if_pos h3,e]
theorem Ur (hS:(Ax n d).isSome=true){x y:List Int}(hx:rtB (rSt n d) x=true)(hy:rtB (rSt n d) y=true)(hz:rtB (rSt n d) (lA x 1 y)=true)(h1:0<sP x)(h2 : ¬ 0<sP y)(h3 : ¬ 0<sP (lA x 1 y)) :
    nF n d x y=(hn n d (lA x 1 y)*nF n d (Av (lA x 1 y)) x).tdiv (hn n d y):=by
  have a3:=(CG hS hz h3).2
  have e:nF n d (Av (lA x 1 y)) x=tb n d (Av y) (Av (lA x 1 y)):=by
    rw[FE hS,Mz hS hx hy,B5,if_pos hy,if_pos (by rw[CP];omega),if_pos h1]
  rw[Ry hS hx hy hz h1 h2,if_neg h3,e]
theorem DD (hS:(Ax n d).isSome=true){x y:List Int}(hx:rtB (rSt n d) x=true)(hy:rtB (rSt n d) y=true) : -12≤nF n d x y∧nF n d x y≤12:=by
  have tq:∀ {h t g:Int},1≤h∧h≤3 → -4≤t∧t≤4→1≤g → -12≤(h*t).tdiv g∧(h*t).tdiv g≤12:=fun {h t g} a b c=>by
    have hm:=A9 (a:=h) (b:=t) (A:=3) (B:=4) (by omega) (by omega)
    exact C4 c (by omega)
  cases hz:rtB (rSt n d) (lA x 1 y) with
  | false=>rw[L2 hS hz];omega
  | true =>
    have bz:=Ce hS hz
    have key:∀ {x y:List Int},rtB (rSt n d) x=true→rtB (rSt n d) y=true→rtB (rSt n d) (lA x 1 y)=true→0<sP x → -12≤nF n d x y∧nF n d x y≤12:=fun {x y} hx hy hz h1=>by
      have bz:=Ce hS hz
      have mx:=CJ hS hx h1
      by_cases h2:0<sP y
      · have:=(LH hS (GD hS mx (CJ hS hy h2) (CJ hS hz (by rw[MH hS hx hy];omega)))).2.1
        rw[LD hS hz h1 h2]
        omega
      · have my:=(CG hS hy h2).1
        rw[Ry hS hx hy hz h1 h2]
        split
        · rename_i h3
          have mz:=CJ hS hz h3
          have D:Dec n d x (Av y) (lA x 1 y):=by
            have e:x=lA (lA x 1 y) 1 (Av y):=by rw[← Ct (Bm hS (Au my) hz)];exact(HY hS hx hy).symm
            have:=GD hS my mz (by rw[HY hS hx hy];exact mx)
            rwa [HY hS hx hy] at this
          have h4:=(LH hS D).2.1
          have h5:=tq bz h4 (Ce hS hx).1
          omega
        · rename_i h3
          have mz:=(CG hS hz h3).1
          have D:Dec n d (Av y) (Av (lA x 1 y)) x:=by
            have:=GD hS mz mx (by rw[Mz hS hx hy];exact my)
            rwa [Mz hS hx hy] at this
          exact tq bz (LH hS D).2.1 (Ce hS hy).1
    by_cases h1:0<sP x
    · exact key hx hy hz h1
    · by_cases h2:0<sP y
      · have:=key hy hx (by rw[← Ct (Bm hS hx hy)];exact hz) h2
        rw[Qt hS hx hy h1 h2]
        omega
      · have h3:=(CG hS hx h1).2
        have:=key (x:=Av x) (y:=Av y) (by rw[B5];exact hx) (by rw[B5];exact hy) (by rw[Ev hS hx hy,B5];exact hz) (by rw[CP];omega)
        rw[NM hS hx hy h1 h2]
        omega
def ZT (x y:List Int):Nat:=if 0<sP x then(if 0<sP y then 0 else 2) else(if 0<sP y then 3 else 1)
def CQ (x y:List Int):Nat:=4*max (max (sP x).natAbs (sP y).natAbs) (sP x+sP y).natAbs+ZT x y
theorem cb {x y:List Int}(h1:sP x<0)(h2:sP y<0):CQ (Av x) (Av y)<CQ x y:=by
  unfold CQ ZT
  rw[CP,CP,if_pos (by omega),if_pos (by omega),if_neg (show ¬ 0<sP x by omega),if_neg (show ¬ 0<sP y by omega)]
  omega
theorem cX {x y:List Int}(h1:sP x<0)(h2:0<sP y):CQ y x<CQ x y:=by
  unfold CQ ZT
  rw[if_pos h2,if_neg (show ¬ 0<sP x by omega),if_neg (show ¬ 0<sP x by omega),if_pos h2]
  omega
theorem Xq {x y z:List Int}(h1:0<sP x)(h2:sP y<0)(hz:sP z=sP x+sP y)(h3:0<sP z):CQ y (Av z)<CQ x y:=by
  unfold CQ ZT
  rw[CP,if_neg (show ¬ 0<sP y by omega),if_neg (show ¬ 0 < -(sP z) by omega),if_pos h1,if_neg (show ¬ 0<sP y by omega)]
  omega
theorem YJ {x y z:List Int}(h1:0<sP x)(h2:sP y<0)(hz:sP z=sP x+sP y)(h3:0<sP z):CQ (Av y) z<CQ x y:=by
  unfold CQ ZT
  rw[CP,if_pos (show 0 < -(sP y) by omega),if_pos h3,if_pos h1,if_neg (show ¬ 0<sP y by omega)]
  omega
theorem Xu {x y z:List Int}(h1:0<sP x)(h2:sP y<0)(hz:sP z=sP x+sP y)(h3:sP z<0):CQ (Av z) x<CQ x y:=by
  unfold CQ ZT
  rw[CP,if_pos (show 0 < -(sP z) by omega),if_pos h1,if_pos h1,if_neg (show ¬ 0<sP y by omega)]
  omega
theorem dd {x y:List Int}(h1:0<sP x)(h2:0<sP y):CQ x y=4*(sP x+sP y).natAbs:=by
  unfold CQ ZT
  rw[if_pos h1,if_pos h2]
  omega
theorem cK {x y f g:List Int}(h1:0<sP x)(h2:0<sP y)(h3:0<sP f)(h4:0<sP g)(hs:sP f+sP g=sP x+sP y){m:Nat}(hm:4*(sP x+sP y).natAbs≤m):CQ y (Av f)<m∧CQ x (Av g)<m∧CQ (Av f) x<m∧CQ y (Av g)<m:=by
  unfold CQ ZT
  rw[CP,CP,if_pos h1,if_pos h2,if_pos h1,if_pos h2]
  refine⟨?_,?_,?_,?_⟩ <;> split <;> omega
end
end Go.Proofs.YtbmnnbglipkidaaGreatDoor
