/-
  Euclid's way to an inverse (the program's): a contract.
-/
import Derived.Test.YtbmnnbglipkidaaGreatDoorZ53
namespace Go.Proofs.YtbmnnbglipkidaaGreatDoor
set_option linter.unusedVariables false
set_option linter.unusedSimpArgs false
open Go.RowKit
set_option linter.unusedVariables false
set_option linter.unusedSimpArgs false
theorem aE {a b:Int}(ha:0≤a)(hb:0<b):0≤a.tmod b∧a.tmod b<b:=⟨Int.tmod_nonneg _ ha,Int.tmod_lt_of_pos _ hb⟩
theorem Od (n p r:Int)(w:World)(hp:1≤p)(hp1:p≤10007)(hn:0≤n)(h0:Nm 30 n p 1 0=some r) :
    Calls Tryz.prog 144 #[.int .i64 n,.int .i64 p] w fun e w'=>e = .returned (.int .i64 (r%p))∧Below w.heap.size w w':=by
  go_enter Tryz.func144,Tryz.ntmps144
  go_wp2
  go_loopw [5,6,7,8] (fun va vb vx vy wr=>∃ (f:Nat) (a b x y:Int),va = .int .i64 a∧vb = .int .i64 b∧vx = .int .i64 x∧vy = .int .i64 y∧0≤a∧0≤b∧Nm f a b x y=some r∧Below w.heap.size w wr) (fun _ vb _ _ _=>(intOf vb).natAbs)
  case atStart=>exact⟨30,n,p,1,0,rfl,rfl,rfl,rfl,hn,by omega,h0,Below.refl _ _⟩
  case round =>
    obtain⟨f,a,b,x,y,rfl,rfl,rfl,rfl,ha,hb,hr,hal⟩:=hrel
    by_cases h1:1<a
    · obtain⟨g,rfl,hrg,hr2⟩:=V7 hr h1
      have hqb:0≤a.tdiv b∧a.tdiv b≤10007:=Vh (by omega) (by omega)
      have hmm : -(10007*100000)≤a.tdiv b*y∧a.tdiv b*y≤10007*100000:=ZF hqb (by omega)
      have htm:=aE ha hrg.1
      have hte:a.tmod b=a%b:=Int.tmod_eq_emod_of_nonneg ha
      rw[hte] at hr2 htm
      have hb0 : ¬ b=0:=by omega
      have hw1:IntKind.i64.wrap (a.tdiv b)=a.tdiv b:=Aj (by omega) (by omega)
      have hw2:IntKind.i64.wrap (a.tdiv b*y)=a.tdiv b*y:=Aj (by omega) (by omega)
      have hw3:IntKind.i64.wrap (x - a.tdiv b*y)=x - a.tdiv b*y:=Aj (by omega) (by omega)
      go_wp2
      go_region
      all_goals (try go_wp2)
      all_goals (
        go_roundw
        case rel=>exact⟨g,b,a%b,y,x - a.tdiv b*y,rfl,rfl,rfl,rfl,hb,htm.1,hr2,hal.drew⟩
        case measure=>simp[intOf];omega)
    · have hxr:=XI hr h1
      subst hxr
      obtain⟨hb1,hb2⟩:=F6 x p hp
      have hq:0≤x.tmod p+p:=by omega
      have hq2:x.tmod p+p≤20014:=by omega
      go_wp2
      all_goals (
        go_ret
        refine⟨Ep ?_,hal⟩
        first | exact Dx x p | (rw[← Dx x p,Int.add_emod_right];done) | (rw[Int.tmod_eq_emod_of_nonneg hq];exact Dx x p) | (rw[Aj (by omega) (by omega),Int.tmod_eq_emod_of_nonneg hq];exact Dx x p))
theorem TH {n p r:Int}(h:Nm 30 n p 1 0=some r):FZ n p=r%p:=by rw[FZ,h]
def Rr (p n:Int)(m:List Int):Nat→List Int
  | 0=>List.replicate (n*n).toNat 0
  | k+1=>addF (fcM p (fun i=>FZ i p) k) p (Rr p n m k) (N6 p n m k)
def aF (p n:Int)(m:List Int):Nat→List Int
  | 0=>Sk n
  | k+1=>(mulF p n n n (aF p n m k) m).map (fun x=>(x*(LC ((k:Int)+1) p%p)).tmod p)
def Xk (p n:Int)(m:List Int):Nat→List Int
  | 0=>List.replicate (n*n).toNat 0
  | k+1=>addF 1 p (Xk p n m k) (aF p n m k)
theorem Ng {p n:Int}{m:List Int}:∀ k,(Rr p n m k).length=(n*n).toNat
  | 0=>by simp[Rr]
  | k+1=>by rw[Rr,BF];exact Ng k
theorem P4 {p n:Int}{m:List Int}:∀ k,(Xk p n m k).length=(n*n).toNat
  | 0=>by simp[Xk]
  | k+1=>by rw[Xk,BF];exact P4 k
theorem Zf {p n:Int}{m:List Int}:∀ k,(aF p n m k).length=(n*n).toNat
  | 0=>RJ n
  | k+1=>by rw[aF,List.length_map];exact Eh ..
theorem V1 {p n:Int}{m:List Int}(hp:1<p):∀ k,Rg p (Rr p n m k)
  | 0=>Rg.rep (by omega) _
  | k+1=>DM (by omega) (V1 hp k)
theorem VR {p n:Int}{m:List Int}(hp:1<p):∀ k,Rg p (Xk p n m k)
  | 0=>Rg.rep (by omega) _
  | k+1=>DM (by omega) (VR hp k)
theorem UL {p n:Int}{m:List Int}(hp:1<p∧p≤10007)(hm:Rg p m):∀ k,Rg p (aF p n m k)
  | 0=>GS (m:=m) hp hm 0
  | k+1=>Uh (by omega) (Fq (by omega) (UL hp hm k) hm)
theorem Ui {p:Int}{n:Nat}{m:List Int}:∀ k,Rr p n m k=RU p n m (fun i=>FZ i p) k
  | 0=>by rw[Rr,RU,Sn]
  | k+1=>by rw[Rr,RU,Ui k,Tf]
theorem TX {p:Int}{n:Nat}{m:List Int}:∀ k,aF p n m k=SV p n m (fun i=>LC i p) k
  | 0=>VL n
  | k+1=>by rw[aF,SV,TX k];rfl
theorem Tm {p:Int}{n:Nat}{m:List Int}:∀ k,Xk p n m k=S8 p n m (fun i=>LC i p) k
  | 0=>by rw[Xk,S8,Sn]
  | k+1=>by rw[Xk,S8,Tm k,TX]
theorem Yf {p r:Int}{m:List Int}(h:AY ⟨p,r,r,m⟩=true){k:Nat}(hk:(k:Int)≤p)(hk2:k≤41):Rr p r m k=Xk p r m k:=by
  have ok:=DG h
  have hp:=ok.p0
  have hp1:=ok.p1
  have hr:=ok.r0
  have hg:=Dy h
  have hpr:=(BC h).1
  simp only at hp hp1 hr hg hpr
  obtain⟨q,rfl⟩:∃ q:Nat,r=q:=⟨r.toNat,by omega⟩
  have hl:m.length=q*q:=by
    have:=ok.len
    simp only at this
    rw[← Int.natCast_mul] at this
    omega
  rw[Ui,Tm,← ab (by omega) hg hl]
  refine LK fun i h1 h2=>?_
  obtain⟨x,e,_⟩:=PB (p:=p) (k:=i) hpr h1 (by omega) (by omega)
  show FZ i p=LC i p
  rw[TH e]
  exact bm hpr h1 (by omega) (by omega) e
theorem XF {p:Int}{k:Nat}(hp:AJ p=true)(h1:1≤k)(h2:k≤40)(h3:(k:Int)<p):∃ r,Nm 30 k p 1 0=some r:=by
  obtain⟨r,e,_⟩:=PB hp h1 h2 h3
  exact⟨r,e⟩
theorem C6 {M:Mat}(h:0≤EI M):AY M=true∧M.r=M.c∧EI M≤40:=by
  by_cases hc:AY M=true∧M.r=M.c
  · refine⟨hc.1,hc.2,?_⟩
    have ok:=DG hc.1
    rw[EI,if_pos hc] at h ⊢
    have:=ok.r1
    have:=ok.r0
    rcases nlG_bd (p:=M.p) (n:=M.r) (m:=M.d) (f:=M.r.toNat+1) (k:=0) with g | g
    · omega
    · omega
  · rw[EI,if_neg hc] at h
    omega
def Bg (M:Mat):Bool:=decide (0≤EI M)&&decide (EI M≤M.p)
def exF (M:Mat):Mat:=if Bg M=true then⟨M.p,M.r,M.r,Rr M.p M.r M.d (EI M).toNat⟩ else⟨0,0,0,[]⟩
theorem eP {p n:Int}{m zs:List Int}{k:Nat}(h:zs=N6 p n m (k - 1))(hk:0<k):mulF p n n n zs m=N6 p n m (k+1 - 1):=by
  obtain⟨j,rfl⟩:∃ j,k=j+1:=⟨k - 1,by omega⟩
  rw[h]
  rfl
theorem U7 {n p:Int}(hp:0<p):0≤FZ n p∧FZ n p<p:=by
  unfold FZ
  split
  · exact⟨Int.emod_nonneg _ (by omega),Int.emod_lt_of_pos _ hp⟩
  · omega
theorem fr {p f:Int}{k:Nat}(hp:1<p)(h:f=fcM p (fun i=>FZ i p) (k - 1))(hk:0<k):(f*FZ k p).tmod p=fcM p (fun i=>FZ i p) (k+1 - 1):=by
  obtain⟨j,rfl⟩:∃ j,k=j+1:=⟨k - 1,by omega⟩
  have h1:=VQ (p:=p) (iv:=fun i=>FZ i p) hp j
  rw[h]
  show (fcM p (fun i=>FZ i p) j*FZ ((j+1:Nat):Int) p).tmod p=fcM p (fun i=>FZ i p) j*FZ ((j+1:Nat):Int) p%p
  exact Int.tmod_eq_emod_of_nonneg (Int.mul_nonneg h1.1 (U7 (by omega)).1)
theorem Z4 {p n f:Int}{m ys zs:List Int}{k:Nat}(hy:ys=Rr p n m k)(hz:zs=N6 p n m (k+1 - 1))(hf:f=fcM p (fun i=>FZ i p) (k+1 - 1)):addF f p ys zs=Rr p n m (k+1):=by
  rw[hy,hz,hf]
  rfl
def Hv (n:Nat)(T:List Int)(i j:Nat):List Int:=(T.drop ((i*n+j)*n)).take n
def YZ (p:Int)(n:Nat)(T u:List Int)(j:Nat)(o:List Int)(i:Nat):List Int:=if u.getD i 0=0 then o else addF (u.getD i 0) p o (Hv n T i j)
def Nn (p:Int)(n:Nat)(T u:List Int)(j i:Nat):List Int:=(List.range i).foldl (YZ p n T u j) (List.replicate n 0)
def KX (p:Int)(n:Nat)(T u:List Int)(k:Nat):List (List Int):=(List.range k).map fun j=>Nn p n T u j n
def RW (p:Int)(n:Nat)(T u:List Int):List Int:=(KX p n T u n).flatten
def cJ (p:Int)(n:Nat)(T y:List Int)(x:Int)(i:Nat)(o:List Int)(j:Nat):List Int:=if (x*y.getD j 0).tmod p=0 then o else addF ((x*y.getD j 0).tmod p) p o (Hv n T i j)
def Np (p:Int)(n:Nat)(T y:List Int)(x:Int)(i:Nat)(o:List Int)(j:Nat):List Int:=(List.range j).foldl (cJ p n T y x i) o
def aW (p:Int)(n:Nat)(T x y:List Int)(o:List Int)(i:Nat):List Int:=if x.getD i 0=0 then o else Np p n T y (x.getD i 0) i o n
def FL (p:Int)(n:Nat)(T x y:List Int)(i:Nat):List Int:=(List.range i).foldl (aW p n T x y) (List.replicate n 0)
def Lb (p:Int)(n:Nat)(T x:List Int)(k:Nat):List (List Int):=(List.range k).map fun j=>FL p n T x (unitL n j) n
def HV (p:Int)(n:Nat)(T x:List Int):List Int:=(Lb p n T x n).flatten
def Lx (p k:Int)(x:List Int):List Int:=x.map fun v=>(0+k*v)%p
structure TbR (p:Int)(n:Nat)(T:List Int):Prop where
  len:T.length=n*n*n
  rg:∀ q,0≤T.getD q 0∧T.getD q 0<p
  hp:2≤p∧p≤10007
  hn:n≤28
section
variable {p c:Int}{n i j k a:Nat}{T u x y o:List Int}
theorem K7:Nn p n T u j (i+1)=YZ p n T u j (Nn p n T u j i) i:=by
  rw[Nn,List.range_succ,List.foldl_append]
  rfl
theorem Ky {xi:Int}:Np p n T y xi i o (j+1)=cJ p n T y xi i (Np p n T y xi i o j) j:=by
  rw[Np,List.range_succ,List.foldl_append]
  rfl
theorem Kj:FL p n T x y (i+1)=aW p n T x y (FL p n T x y i) i:=by
  rw[FL,List.range_succ,List.foldl_append]
  rfl
theorem fP (hi:i<n)(hj:j<n):(i*n+j)*n+n≤n*n*n:=by
  have h1:(i+1)*n≤n*n:=Nat.mul_le_mul_right _ hi
  rw[Nat.add_mul,Nat.one_mul] at h1
  have h2:(i*n+j+1)*n≤n*n*n:=Nat.mul_le_mul_right _ (by omega)
  rw[Nat.add_mul,Nat.one_mul] at h2
  exact h2
theorem dU {z:Int}(hz:z=(n:Int))(hn:n≤28)(hi:i<n)(hj:j<n):(0≤(i:Int)*z∧(i:Int)*z≤784)∧((i:Int)*z+(j:Int))*z=(((i*n+j)*n:Nat):Int)∧(i*n+j)*n≤21952∧(i*n+j)*n+n≤n*n*n:=by
  subst hz
  have h1:i*n≤28*28:=Nat.mul_le_mul (by omega) hn
  have h3:n*n≤28*28:=Nat.mul_le_mul hn hn
  have h4:n*n*n≤784*28:=Nat.mul_le_mul h3 hn
  have h5:=fP hi hj
  have e1:(i:Int)*(n:Int)=((i*n:Nat):Int):=(Int.natCast_mul ..).symm
  refine⟨by rw[e1];exact⟨Int.natCast_nonneg _,Int.ofNat_le.2 h1⟩,by rw[e1,← Int.natCast_add,← Int.natCast_mul],by omega,h5⟩
theorem H4 (h:TbR p n T)(hi:i<n)(hj:j<n):(Hv n T i j).length=n:=by
  have h1:=fP hi hj
  rw[Hv,List.length_take,List.length_drop,h.len]
  omega
theorem Pn (hk:k<n):(Hv n T i j).getD k 0=T.getD ((i*n+j)*n+k) 0:=by
  simp[Hv,List.getD,List.getElem?_take_of_lt hk,List.getElem?_drop]
theorem TL (h:TbR p n T):Rg p (Hv n T i j):=fun k=>by
  by_cases hk:k<n
  · rw[Pn hk];exact h.rg _
  · rw[List.getD,List.getElem?_eq_none (by rw[Hv,List.length_take];omega)]
    have:=h.hp
    simp;omega
theorem rtS_ok (h:TbR p n T)(ho:o.length=n∧Rg p o):(YZ p n T u j o i).length=n∧Rg p (YZ p n T u j o i):=by
  have hp:=h.hp
  unfold YZ
  split
  · exact ho
  · exact⟨by rw[BF];exact ho.1,DM (by omega) ho.2⟩
theorem Us (h:TbR p n T):(List.replicate n (0:Int)).length=n∧Rg p (List.replicate n 0):=⟨by simp,Rg.rep (by have:=h.hp;omega) n⟩
theorem rtK_ok (h:TbR p n T):∀ i,(Nn p n T u j i).length=n∧Rg p (Nn p n T u j i)
  | 0=>Us h
  | i+1=>by rw[K7];exact rtS_ok h (rtK_ok h i)
theorem K9 (h:TbR p n T){xi:Int}(ho:o.length=n∧Rg p o):∀ j,(Np p n T y xi i o j).length=n∧Rg p (Np p n T y xi i o j)
  | 0=>ho
  | j+1=>by
    have hp:=h.hp
    rw[Ky,cJ]
    split
    · exact K9 h ho j
    · exact⟨by rw[BF];exact(K9 h ho j).1,DM (by omega) (K9 h ho j).2⟩
theorem M3 (h:TbR p n T):∀ i,(FL p n T x y i).length=n∧Rg p (FL p n T x y i)
  | 0=>Us h
  | i+1=>by
    rw[Kj,aW]
    split
    · exact M3 h i
    · exact K9 h (M3 h i) n
theorem KH {α:Type}{f:α→Nat→α}{o:α}(ha:a<n)(h:∀ i o,i<n→i≠a→f o i=o):(List.range n).foldl f o=f o a:=by
  have key:∀ m,m≤n→(List.range m).foldl f o=if a<m then f o a else o:=fun m=>by
    induction m with
    | zero=>intro _;rw[if_neg (by omega)];rfl
    | succ m ih =>
      intro hm
      rw[List.range_succ,List.foldl_append,ih (by omega)]
      show f _ m=_
      by_cases e:m=a
      · subst e;rw[if_neg (by omega),if_pos (by omega)]
      · rw[h m _ (by omega) e]
        by_cases e2:a<m
        · rw[if_pos e2,if_pos (by omega)]
        · rw[if_neg e2,if_neg (by omega)]
  rw[key n (Nat.le_refl _),if_pos ha]
theorem Ft (ha:a<n)(i:Nat)(hi:i<n):(unitL n a).getD i 0=if i=a then 1 else 0:=GL hi
theorem Rm (ha:a<n):Nn p n T (unitL n a) j n=addF 1 p (List.replicate n 0) (Hv n T a j):=by
  rw[Nn,KH ha (fun i o hi hne=>by rw[YZ,if_pos (by rw[Ft ha i hi,if_neg hne])]),YZ,Ft ha a ha,if_pos rfl,if_neg (by decide)]
theorem Rq (ha:a<n)(hj:j<n)(hc:0<c∧c<p)(hx:∀ i,i<n→x.getD i 0=if i=a then c else 0):FL p n T x (unitL n j) n=addF c p (List.replicate n 0) (Hv n T a j):=by
  have h1:∀ i,i<n→(c*(unitL n j).getD i 0).tmod p=if i=j then c else 0:=fun i hi=>by
    rw[Ft hj i hi]
    split
    · rw[Int.mul_one,Int.tmod_eq_emod_of_nonneg (by omega),Int.emod_eq_of_lt (by omega) hc.2]
    · rw[Int.mul_zero,Int.zero_tmod]
  rw[FL,KH ha (fun i o hi hne=>by rw[aW,if_pos (by rw[hx i hi,if_neg hne])]),aW,hx a ha,if_pos rfl,if_neg (by omega),Np,KH hj (fun i o hi hne=>by rw[cJ,if_pos (by rw[h1 i hi,if_neg hne])]),cJ,h1 j hj,if_pos rfl,if_neg (by omega)]
theorem aA (h:TbR p n T)(ha:a<n):RW p n T (unitL n a)=HV p n T (unitL n a):=by
  have hp:=h.hp
  rw[RW,HV,KX,Lb]
  congr 1
  refine List.map_congr_left fun j hj=>?_
  rw[Rm ha,Rq (c:=1) ha (List.mem_range.1 hj) (by omega) fun i hi=>Ft ha i hi]
theorem dO (h:TbR p n T)(ha:a<n):∀ i,i<n→(Lx p (-1) (unitL n a)).getD i 0=if i=a then p - 1 else 0:=fun i hi=>by
  have hp:=h.hp
  have h1:=Ft ha i hi
  have e:(Lx p (-1) (unitL n a)).getD i 0=(0+(-1)*(unitL n a).getD i 0)%p:=by simp[Lx,List.getD,unitL,hi]
  rw[e,h1]
  split
  · rw[show (0+(-1)*1:Int)=(p - 1)+p*(-1) by omega,Int.add_mul_emod_self_left,Int.emod_eq_of_lt (by omega) (by omega)]
  · rw[Int.mul_zero,Int.add_zero,Int.zero_emod]
theorem Y4 (h:TbR p n T):(RW p n T u).length=n*n:=by
  have key:∀ k,((KX p n T u k).flatten).length=k*n:=fun k=>by
    induction k with
    | zero=>simp[KX]
    | succ k ih =>
      rw[KX,List.range_succ,List.map_append,List.flatten_append,List.length_append,Nat.add_mul,Nat.one_mul]
      rw[KX] at ih
      rw[ih]
      simp[(rtK_ok h n).1]
  exact key n
theorem bD (h:TbR p n T):Rg p (RW p n T u):=Rg.of (by have:=h.hp;omega) fun v hv=>by
  obtain⟨l,hl,hv⟩:=List.mem_flatten.1 hv
  obtain⟨j,_,rfl⟩:=List.mem_map.1 hl
  exact(rtK_ok h n).2.mem hv
theorem dM (h:TbR p n T)(hp:AJ p=true):AY ⟨p,n,n,RW p n T u⟩=true:=by
  have hp2:=h.hp
  have hn:=h.hn
  have hl:=Y4 (u:=u) h
  have hr:GT (RW p n T u) p=true:=cO (bD h)
  have hb:BZ (n:Int) 0 40=true:=inB_of (by omega) (by omega)
  have he:(((RW p n T u).length:Int)==(n:Int)*(n:Int))=true:=by rw[hl,Int.natCast_mul];exact beq_self_eq_true _
  simp only[AY,hp,hb,he,hr]
  rfl
theorem VV (h:TbR p n T)(hp:AJ p=true)(ha:a<n):AE ⟨p,n,n,RW p n T (unitL n a)⟩ (-1)=⟨p,n,n,HV p n T (Lx p (-1) (unitL n a))⟩:=by
  have hp2:=h.hp
  have hok:=dM (u:=unitL n a) h hp
  have hd:=Ug (k := -1) hok
  have e:AE ⟨p,n,n,RW p n T (unitL n a)⟩ (-1)=⟨p,n,n,(AE ⟨p,n,n,RW p n T (unitL n a)⟩ (-1)).d⟩:=by
    rw[AE,if_pos hok];rfl
  rw[e,hd]
  congr 1
  rw[RW,HV,List.map_flatten,KX,Lb,List.map_map]
  congr 1
  refine List.map_congr_left fun j hj=>?_
  have hj2:=List.mem_range.1 hj
  rw[Rq (c:=p - 1) ha hj2 (by omega) (dO h ha)]
  show (Nn p n T (unitL n a) j n).map _=_
  rw[Rm ha]
  have hl:=H4 h ha hj2
  have er:=fun k=>Kt k p (Hv n T a j)
  rw[hl] at er
  rw[er,er,List.map_map]
  refine List.map_congr_left fun v hv=>?_
  have hv2:=(TL h).mem hv
  show ((0+1*v)%p*((-1)%p)).tmod p=(0+(p - 1)*v)%p
  have e1:(-1:Int)%p=p - 1:=by rw[show (-1:Int)=(p - 1)+p*(-1) by omega,Int.add_mul_emod_self_left,Int.emod_eq_of_lt (by omega) (by omega)]
  rw[e1,Int.zero_add,Int.one_mul,Int.emod_eq_of_lt hv2.1 hv2.2,Int.tmod_eq_emod_of_nonneg (Int.mul_nonneg hv2.1 (by omega)),Int.zero_add,Int.mul_comm]
end
theorem QW {k:Nat}{f p:Int}{x y:List Int}(h1:k<y.length)(h2:k<x.length):(addF f p x (y.take k)).set k (((addF f p x (y.take k)).getD k 0+f*y.getD k 0)%p)=addF f p x (y.take (k+1)):=by
  have h:=Fs f p x y k h1 h2
  rw[h.1]
  exact h.2
theorem MM {n l h:Nat}{T:List Int}(e:h=l+n):(T.drop l).take (h - l)=(T.drop l).take n:=by
  rw[e,Nat.add_sub_cancel_left]
theorem TA {p:Int}{n k:Nat}{T u:List Int}:KX p n T u k++[Nn p n T u k n]=KX p n T u (k+1):=by
  rw[KX,KX,List.range_succ,List.map_append]
  rfl
theorem Tv {p:Int}{n k:Nat}{T u:List Int}:Lb p n T u k++[FL p n T u (unitL n k) n]=Lb p n T u (k+1):=by
  rw[Lb,Lb,List.range_succ,List.map_append]
  rfl
theorem HT {p:Int}{n k:Nat}{T u:List Int}:(KX p n T u k).length=k:=by simp[KX]
theorem HJ {p:Int}{n k:Nat}{T u:List Int}:(Lb p n T u k).length=k:=by simp[Lb]
theorem b5 {p:Int}{n k:Nat}{T u:List Int}(h:TbR p n T):∀ j,j<(KX p n T u k).length→((KX p n T u k).getD j []).length≤64:=fun j hj=>by
  have hn:=h.hn
  rw[HT] at hj
  have e:(KX p n T u k).getD j []=Nn p n T u j n:=by simp[KX,List.getD,hj]
  rw[e,(rtK_ok h n).1]
  omega
theorem cY {p:Int}{n k:Nat}{T u:List Int}(h:TbR p n T):∀ j,j<(Lb p n T u k).length→((Lb p n T u k).getD j []).length≤64:=fun j hj=>by
  have hn:=h.hn
  rw[HJ] at hj
  have e:(Lb p n T u k).getD j []=FL p n T u (unitL n j) n:=by simp[Lb,List.getD,hj]
  rw[e,(M3 h n).1]
  omega
theorem VI {p k:Int}{x:List Int}{i:Nat}(h:i<x.length):(((x.take i).map fun v=>(0+k*v)%p)++List.replicate (x.length - i) 0).set i ((0+k*x.getD i 0)%p)=((x.take (i+1)).map fun v=>(0+k*v)%p)++List.replicate (x.length - (i+1)) 0:=by
  have hl:((x.take i).map fun v=>(0+k*v)%p).length=i:=by simp;omega
  rw[List.set_append_right _ _ (by omega),hl,Nat.sub_self,show x.length - i=(x.length - (i+1))+1 by omega,List.replicate_succ,List.set_cons_zero,BU (d:=0) h,List.map_append,List.append_assoc]
  rfl
theorem X0 {p C:Int}{n i j k:Nat}{T o:List Int}(h:TbR p n T)(hi:i<n)(hj:j<n)(hk:k<n)(hC:0≤C)(ho:o.length=n∧Rg p o):(addF C p o ((Hv n T i j).take k)).set k (((addF C p o ((Hv n T i j).take k)).getD k 0+C*T.getD ((i*n+j)*n+k) 0).tmod p)=addF C p o ((Hv n T i j).take (k+1)):=by
  have hp:=h.hp
  have hg:=(DM (k:=C) (y:=(Hv n T i j).take k) (show 0<p by omega) ho.2) k
  have hl:=H4 h hi hj
  have hb:=h.rg ((i*n+j)*n+k)
  rw[← Pn hk] at hb
  rw[← Pn hk,Int.tmod_eq_emod_of_nonneg (by have:=Int.mul_nonneg hC hb.1;omega),QW (by omega) (by omega)]
theorem Um {p C:Int}{n i j k:Nat}{T o:List Int}(h:TbR p n T)(hi:i<n)(hj:j<n)(h0:C=0→k=0)(he:C≠0→k=n):addF C p o ((Hv n T i j).take k)=if C=0 then o else addF C p o (Hv n T i j):=by
  split
  · rename_i e
    rw[h0 e,List.take_zero,CZ]
  · rename_i e
    rw[he e,List.take_of_length_le (by rw[H4 h hi hj];exact Nat.le_refl _)]
theorem XO {p C:Int}{n k:Nat}{o y:List Int}(hp:0<p)(ho:o.length=n∧Rg p o):(addF C p o (y.take k)).length=n∧0≤(addF C p o (y.take k)).getD k 0∧(addF C p o (y.take k)).getD k 0<p:=⟨by rw[BF];exact ho.1,DM hp ho.2 k⟩
theorem H0 {m a:Nat}(ha:a<m):∀ i,0≤(unitL m a).getD i 0∧(unitL m a).getD i 0≤10007:=fun i=>by
  by_cases hi:i<m
  · rw[GL hi];split <;> omega
  · rw[List.getD,List.getElem?_eq_none (by rw[Bf];omega)];simp
theorem S1 {p z:Int}{n k:Nat}{T u:List Int}(hz:z=(n:Int)):Lb p n T u k++[FL p n T u (unitL z.toNat (k:Int).toNat) n]=Lb p n T u (k+1):=by
  subst hz
  exact Tv
end Go.Proofs.YtbmnnbglipkidaaGreatDoor
