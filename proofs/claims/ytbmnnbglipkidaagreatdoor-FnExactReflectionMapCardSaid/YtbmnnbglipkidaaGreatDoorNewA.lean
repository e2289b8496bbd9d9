/-
  The first text's roots in plain words: where each stands, as a map tells it.
-/
import Derived.Test.YtbmnnbglipkidaaGreatDoorZ58
namespace Go.Proofs.YtbmnnbglipkidaaGreatDoor
set_option maxRecDepth 100000
set_option linter.unusedVariables false
set_option linter.unusedSimpArgs false
open Go.RowKit
theorem dI {α β γ:Type}(F:α→β→γ){a a':α}{b b':β}(h1:a=a')(h2:b=b'):F a b=F a' b':=by rw[h1,h2]
def usOf:Value→List Value
  | .agg a=>a.toList
  | _=>[]
def Ef:Nat→List (List Int)→List (List Int × Int)
  | _,[]=>[]
  | n,x::t=>(x,(n:Int))::Ef (n+1) t
theorem RD:∀ (L:List (List Int)) (n:Nat) (y:List Int),Ef n (L++[y])=Ef n L++[(y,((n+L.length:Nat):Int))]
  | [],n,y=>by simp[Ef]
  | x::t,n,y=>by
    rw[List.cons_append,Ef,Ef,RD t (n+1) y]
    simp only[List.cons_append,List.length_cons]
    rw[show n+1+t.length=n+(t.length+1) by omega]
theorem G5 (x:List Int):∀ (L:List (List Int)) (n:Nat),(BP x (Ef n L)).isSome=L.contains x
  | [],n=>rfl
  | y::t,n=>by
    rw[Ef,BP,List.contains_cons]
    by_cases h:x=y
    · rw[if_pos h]
      simp[h]
    · rw[if_neg h,G5 x t (n+1)]
      simp[h]
theorem NP {α β:Type}[DecidableEq α]{k:α}{v:β}:∀ {l:List (α × β)},BP k l=none→Hx k v l=l++[(k,v)]
  | [],_=>rfl
  | (a,b)::t,h=>by
    rw[BP] at h
    split at h
    · cases h
    · rename_i hn
      rw[Hx,if_neg hn,NP h]
      rfl
theorem Uw {L:List (List Int)}{y:List Int}(h:L.contains y=false):Hx y (L.length:Int) (Ef 0 L)=Ef 0 (L++[y]):=by
  have h1:=G5 y L 0
  rw[h] at h1
  rw[NP (Option.isSome_eq_false_iff.1 h1 |> Option.isNone_iff_eq_none.1),RD,Nat.zero_add]
theorem TC {m i:Nat}(hi:i<m):((List.range i).map (unitL m)).contains (unitL m i)=false:=by
  cases e:((List.range i).map (unitL m)).contains (unitL m i) with
  | false=>rfl
  | true =>
    exfalso
    rw[List.contains_iff_mem] at e
    obtain⟨j,hj,hu⟩:=List.mem_map.1 e
    have hji:j<i:=by simpa using hj
    have h1:(unitL m j).getD i 0=if i=j then 1 else 0:=by simp[unitL,List.getD,hi]
    have h2:(unitL m i).getD i 0=if i=i then 1 else 0:=by simp[unitL,List.getD,hi]
    rw[hu,h2,if_pos rfl,if_neg (by omega)] at h1
    omega
theorem Vt {m i:Nat}(hi:i<m):Hx (unitL m i) (i:Int) (Ef 0 ((List.range i).map (unitL m)))=Ef 0 ((List.range (i+1)).map (unitL m)):=by
  have h:=Uw (TC hi)
  rw[FK] at h
  simpa using h
def Xg (os:List (List Int))(p:Nat)(l:List (List Int × Int)):List (List Int × Int):=(List.range p).foldl (fun l i=>Hx (os.getD i []) (i:Int) l) l
def A7 (n:Int)(d:List Int):List (List Int × Int):=Xg (rSt n d) (rSt n d).length (Ef 0 (rFd n d))
theorem N7 (os:List (List Int))(p:Nat)(l:List (List Int × Int)):Xg os (p+1) l=Hx (os.getD p []) (p:Int) (Xg os p l):=by rw[Xg,A6];rfl
def UV (L:List (List Int))(x:List Int):Option Int:=if L.contains x then some (plF L x) else none
theorem CL {x y:List Int}:Cu y x=decide (x=y):=by
  unfold Cu
  exact decide_eq_decide.2 eq_comm
theorem GJ {L:List (List Int)}(h:L.Nodup){p:Nat}(hp:p<L.length):plF L (L.getD p [])=p:=by
  refine Gu (d:=[]) hp ?_ (by rw[CL];exact decide_eq_true rfl)
  rw[List.any_eq_false]
  intro y hy hs
  rw[CL] at hs
  have e:=of_decide_eq_true hs
  obtain⟨j,hj,rfl⟩:=List.mem_iff_getElem.1 hy
  have hjp:j<p:=by simp at hj;omega
  have hjl:j<L.length:=by omega
  rw[List.getElem_take] at e
  have e2:L.getD p []=L[p]:=by simp[List.getD,hp]
  rw[e2] at e
  exact List.pairwise_iff_getElem.1 h j p hjl hp hjp e.symm
theorem QS {os:List (List Int)}(h:os.Nodup)(x:List Int)(l:List (List Int × Int)):∀ {p:Nat},p≤os.length→BP x (Xg os p l)=if (os.take p).contains x then some (plF os x) else BP x l
  | 0,_=>by simp[Xg]
  | p+1,hp=>by
    rw[N7,H3,QS h x l (by omega),BU (d:=[]) (by omega)]
    by_cases e:x=os.getD p []
    · rw[if_pos e,if_pos (by simp[e])]
      rw[e,GJ h (by omega)]
    · rw[if_neg e]
      have e2:(os.take p++[os.getD p []]).contains x=(os.take p).contains x:=by
        rw[Bool.eq_iff_iff]
        simp only[List.contains_iff_mem,List.mem_append,List.mem_singleton]
        exact⟨fun h=>h.resolve_right e,.inl⟩
      rw[e2]
theorem RtOk.snod {n:Int}{d:List Int}(h:RtOk n d):(rSt n d).Nodup:=h.perm.nodup_iff.2 h.nod
theorem RtOk.look {n:Int}{d:List Int}(h:RtOk n d)(x:List Int):BP x (A7 n d)=UV (rSt n d) x:=by
  rw[A7,QS h.snod x _ (Nat.le_refl _),List.take_length,UV]
  by_cases hc:(rSt n d).contains x
  · rw[if_pos hc,if_pos hc]
  · rw[if_neg hc,if_neg hc]
    have h1:=G5 x (rFd n d) 0
    have h2:(rFd n d).contains x=false:=by
      cases e:(rFd n d).contains x with
      | false=>rfl
      | true =>
        rw[List.contains_iff_mem,← h.perm.mem_iff,← List.contains_iff_mem] at e
        exact absurd e hc
    rw[h2] at h1
    exact Option.isNone_iff_eq_none.1 (Option.isSome_eq_false_iff.1 h1)
theorem RtOk.pos {n:Int}{d:List Int}(h:RtOk n d):n.toNat≤(rFd n d).length:=by
  have:=(FM h.run).len
  simpa [LV] using this
theorem D8 {L:List (List Int)}{x:List Int}:(UV L x).isSome=L.contains x:=by
  unfold UV
  split
  · rename_i h;rw[h];rfl
  · rename_i h;simpa using h
theorem E3 {L:List (List Int)}{x:List Int}:decide (0≤plF L x)=L.contains x:=by
  have h:=P1 (L:=L) (x:=x)
  cases e:L.contains x with
  | true =>
    rw[e] at h
    have:=of_decide_eq_false h
    exact decide_eq_true (by omega)
  | false =>
    rw[e] at h
    have:=of_decide_eq_true h
    exact decide_eq_false (by omega)
theorem Ko {x:List Int}(h:∀ k,k<x.length → -100000≤x.getD k 0∧x.getD k 0≤100000):All64 x:=fun y hy=>by
  obtain⟨k,hk,rfl⟩:=List.mem_iff_getElem.1 hy
  have h1:=h k hk
  have e:x.getD k 0=x[k]:=by simp[List.getD,hk]
  rw[e] at h1
  exact⟨by omega,by omega⟩
theorem GL {m i k:Nat}(hk:k<m):(unitL m i).getD k 0=if k=i then 1 else 0:=by simp[unitL,List.getD,hk]
theorem Pr (m i:Nat):All64 (unitL m i):=Ko fun k hk=>by
  rw[Bf] at hk
  rw[GL hk]
  split <;> omega
theorem Dp {m i:Nat}:((List.range (i+1)).map (unitL m)).getD i []=unitL m i:=by simp[List.getD]
theorem RtOk.nxt {n:Int}{d:List Int}(h:RtOk n d){x:List Int}{i:Nat}(hl:x.length=n.toNat)(hb:∀ j,0≤x.getD j 0∧x.getD j 0≤10)(hi:i<n.toNat) :
    (-12000≤(wtF n d x).getD i 0∧(wtF n d x).getD i 0≤12000)∧Af x (0 - (wtF n d x).getD i 0) (unitL n.toNat i)=AK n d x i∧(AK n d x i).length=n.toNat∧All64 (AK n d x i):=by
  have hx:∀ k,k<x.length → -1000≤x.getD k 0∧x.getD k 0≤1000:=fun k _=>by have:=hb k;omega
  obtain⟨h1,h2⟩:=GR h.mat hx hl h.rk hi
  refine⟨h2,TW h.mat hx hl h.rk hi,by rw[D7];exact hl,Ko fun k hk=>?_⟩
  rw[D7] at hk
  have hbk:=hb k
  by_cases e:k=i
  · subst e
    rw[AK,BE hk,← h1]
    omega
  · rw[AK,Br (fun he=>e he.symm)]
    omega
theorem rOne_k1 {n:Int}{d x:List Int}{L:List (List Int)}{i:Nat}(h:(BP (AK n d x i) (Ef 0 L)).isSome=true):L=DI n d x L i:=by
  rw[G5] at h
  rw[DI,h]
  simp
theorem rOne_k2 {n:Int}{d x:List Int}{L:List (List Int)}{i:Nat}(hx:∀ j,0≤x.getD j 0)(hi:i<x.length)(h : ¬ 0≤(AK n d x i).getD i 0):L=DI n d x L i:=by
  rw[DI,Mi hx hi,decide_eq_false h]
  rfl
theorem rOne_k3 {n:Int}{d x:List Int}{L:List (List Int)}{i:Nat}(hx:∀ j,0≤x.getD j 0)(hi:i<x.length)(h:(BP (AK n d x i) (Ef 0 L)).isSome=false)(h2:0≤(AK n d x i).getD i 0):L++[AK n d x i]=DI n d x L i:=by
  rw[G5] at h
  rw[DI,Mi hx hi,decide_eq_true h2,h]
  rfl
theorem YC {n:Int}{d x:List Int}{L:List (List Int)}{i m:Nat}(h:(BP (AK n d x i) (Ef 0 L)).isSome=false)(hm:m=L.length):Hx (AK n d x i) (m:Int) (Ef 0 L)=Ef 0 (L++[AK n d x i]):=by
  rw[G5] at h
  rw[hm]
  exact Uw h
def Fe (x:List Int):List Int:=Af (List.replicate x.length 0) (-1) x
def fdP (n:Int)(kv:List (List Int × Int))(x:List Int):Int:=if (x.length:Int)≠n then 0 else if (BP x kv).isSome then(BP x kv).getD 0 else(BP (Fe x) kv).getD 0
def SY (n:Int)(kv:List (List Int × Int))(x:List Int):Bool:=decide ((x.length:Int)=n)&&(BP x kv).isSome
def EL (n:Int)(kv:List (List Int × Int))(x:List Int):Bool:=decide ((x.length:Int)=n)&&((BP x kv).isSome || (BP (Fe x) kv).isSome)
def fdI (n:Int)(m:Nat)(kv:List (List Int × Int))(x:List Int):Int:=if EL n kv x then(if SY n kv x then fdP n kv x else(m:Int)+n+fdP n kv x) else -1
theorem KN {g:Nat→List Int→Int}(hg:∀ i o,dt (g i o)):∀ (m:Nat) (x:List Int),All64 x→All64 ((List.range m).foldl (fun(o:List Int) (i:Nat)=>o.set i (g i o)) x)
  | 0,x,h=>h
  | m+1,x,h=>by
    rw[A6]
    intro y hy
    rcases List.mem_or_eq_of_mem_set hy with hy | rfl
    · exact KN hg m x h y hy
    · exact hg _ _
theorem Tr (i:Int):dt (IntKind.i64.wrap i):=by
  unfold dt
  rw[IntKind.wrap_i64]
  omega
theorem Bn {x y:List Int}{k:Int}(h:All64 x):All64 (Af x k y):=KN (g:=fun i (o:List Int)=>IntKind.i64.wrap (o.getD i 0+IntKind.i64.wrap (k*y.getD i 0))) (fun i o=>Tr _) _ _ h
theorem LQ (x:List Int):All64 (Fe x):=Bn fun y hy=>by
  rw[List.eq_of_mem_replicate hy]
  exact⟨by omega,by omega⟩
theorem DR (x:List Int):(Fe x).length=x.length:=by rw[Fe,AQ,List.length_replicate]
section
variable {P:Program}{n:Nat}{env:List (Nat × Value)}{W:World}{own:List Asn}{o:Oper}
theorem GC.nilLst {c:Code}{Q:Exit→Act→World→Prop}(e:Nat)(h:GC P c Q n env W (Proofs.YtbmnnbglipkidaaGreatDoor.lst e (.slice none 0 0) []::own)):GC P c Q n env W own:=fun a w hf hs=>h a w hf (hs.nilRow e 1)
end
theorem Yy {x:List Int}{k:Nat}(hk:k<x.length):(Fe x).getD k 0=IntKind.i64.wrap (0+IntKind.i64.wrap (-1*x.getD k 0)):=by
  have hg:=CC (g:=fun i (z:Int)=>IntKind.i64.wrap (z+IntKind.i64.wrap (-1*x.getD i 0))) (o:=List.replicate x.length 0) (m:=x.length) (k:=k) (by simp) (by simpa using hk)
  rw[if_pos hk] at hg
  have h0:(List.replicate x.length (0:Int)).getD k 0=0:=by simp[List.getD,hk]
  rw[h0] at hg
  exact hg
theorem Ey {n:Int}{x:List Int}(hl:(x.length:Int)=n)(hb:∀ k,k<x.length → -1000≤x.getD k 0∧x.getD k 0≤1000):Dk n x=true:=by
  have h2:(x.any fun y => !(BZ y (-1000) 1000))=false:=by
    rw[List.any_eq_false]
    intro y hy
    obtain⟨k,hk,rfl⟩:=List.mem_iff_getElem.1 hy
    have h:=hb k hk
    have e:x.getD k 0=x[k]:=by simp[List.getD,hk]
    rw[e] at h
    simp[BZ,h.1,h.2]
  rw[Dk,h2,beq_iff_eq.2 hl]
  rfl
def rtB (L:List (List Int))(x:List Int):Bool:=L.contains x || L.contains (Av x)
theorem RtOk.in1 {n:Int}{d:List Int}(h:RtOk n d){x:List Int}(hx:(rSt n d).contains x=true):Dk n x=true:=by
  rw[List.contains_iff_mem] at hx
  obtain⟨h1,h2⟩:=h.smem hx
  have hlo:=h.lo
  exact Ey (by omega) fun k _=>by have:=h2 k;omega
theorem RtOk.in2 {n:Int}{d:List Int}(h:RtOk n d){x:List Int}(h64:All64 x)(hx:(rSt n d).contains (Fe x)=true):Dk n x=true:=by
  rw[List.contains_iff_mem] at hx
  obtain⟨h1,h2⟩:=h.smem hx
  have hlo:=h.lo
  rw[DR] at h1
  refine Ey (by omega) fun k hk=>?_
  have h3:=h2 k
  obtain⟨h5,h6⟩:=h64.get hk
  rw[Yy hk,IntKind.wrap_i64,IntKind.wrap_i64] at h3
  omega
theorem KC {n:Int}{x:List Int}(h:Dk n x=true):Fe x=Av x:=Of (Gj h)
theorem RtOk.fd {n:Int}{d:List Int}(h:RtOk n d)(x:List Int):EL n (A7 n d) x=(decide ((x.length:Int)=n)&&((rSt n d).contains x || (rSt n d).contains (Fe x))):=by
  rw[EL,h.look,h.look,D8,D8]
theorem RtOk.rt {n:Int}{d:List Int}(h:RtOk n d){x:List Int}(h64:All64 x):EL n (A7 n d) x=(Dk n x&&rtB (rSt n d) x):=by
  rw[h.fd]
  cases hw:Dk n x with
  | true=>rw[decide_eq_true (Fc hw),KC hw];rfl
  | false =>
    have h1:(rSt n d).contains x=false:=by
      cases e:(rSt n d).contains x with
      | false=>rfl
      | true=>rw[h.in1 e] at hw;cases hw
    have h2:(rSt n d).contains (Fe x)=false:=by
      cases e:(rSt n d).contains (Fe x) with
      | false=>rfl
      | true=>rw[h.in2 h64 e] at hw;cases hw
    rw[h1,h2]
    simp
theorem Gw {L:List (List Int)}{x:List Int}:plF L x≤L.length:=by
  unfold plF Hs
  split
  · rename_i i h
    have:=(List.findIdx?_eq_some_iff_findIdx_eq.1 h).1
    omega
  · omega
def l7I (n:Int)(L:List (List Int))(x:List Int):Int:=if 0≤plF L x then plF L x else if plF L (Av x)<0 then -1 else(L.length:Int)+n+plF L (Av x)
theorem N2 {L:List (List Int)}{x:List Int}(h:L.contains x=true):0≤plF L x:=of_decide_eq_true (E3.trans h)
theorem OE {L:List (List Int)}{x:List Int}(h:L.contains x=false):plF L x<0:=by
  have:=of_decide_eq_false (E3.trans h)
  omega
theorem RtOk.fp {n:Int}{d:List Int}(h:RtOk n d)(x:List Int):0≤fdP n (A7 n d) x∧fdP n (A7 n d) x≤30:=by
  have hs:=h.slen
  have hf:=h.few
  unfold fdP
  rw[h.look,h.look,D8]
  have key:∀ y,0≤(UV (rSt n d) y).getD 0∧(UV (rSt n d) y).getD 0≤30:=fun y=>by
    unfold UV
    split
    · rename_i hc
      have h1:=N2 hc
      have h2:=Gw (L:=rSt n d) (x:=y)
      simp only[Option.getD_some]
      omega
    · simp
  split
  · omega
  · split
    · exact key x
    · exact key (Fe x)
theorem RtOk.ri {n:Int}{d:List Int}(h:RtOk n d){x:List Int}(h64:All64 x):fdI n (rSt n d).length (A7 n d) x=if Dk n x then l7I n (rSt n d) x else -1:=by
  unfold fdI
  rw[h.rt h64]
  cases hw:Dk n x with
  | false=>rfl
  | true =>
    have hl:=Fc hw
    have e1:SY n (A7 n d) x=(rSt n d).contains x:=by rw[SY,h.look,D8,decide_eq_true hl];rfl
    have e2:fdP n (A7 n d) x=if (rSt n d).contains x then(UV (rSt n d) x).getD 0 else(UV (rSt n d) (Av x)).getD 0:=by rw[fdP,if_neg (fun e=>e hl),h.look,h.look,D8,KC hw]
    rw[e1,e2,l7I,rtB]
    cases hc:(rSt n d).contains x with
    | true =>
      have h1:=N2 hc
      have e3:UV (rSt n d) x=some (plF (rSt n d) x):=if_pos hc
      simp[e3,h1]
    | false =>
      have h1:=OE hc
      rw[if_neg (show ¬ 0≤plF (rSt n d) x by omega)]
      cases hm:(rSt n d).contains (Av x) with
      | true =>
        have h2:=N2 hm
        have e3:UV (rSt n d) (Av x)=some (plF (rSt n d) (Av x)):=if_pos hm
        rw[if_neg (show ¬ plF (rSt n d) (Av x)<0 by omega)]
        simp[e3]
      | false =>
        have h2:=OE hm
        rw[if_pos h2]
        simp
def Tg (n:Int)(d l:List Int)(x:List Int):Int:=dotN (fun i=>x.getD i 0*l.getD i 0) (fun i=>dotN (fun k=>atI n d i k) (x.getD · 0) n.toNat) n.toNat
def XW (n:Int)(d:List Int):Bool :=
  ((rFd n d).all fun x=>decide (2≤Tg n d (A3 n d) x)&&x.any fun y=>decide (1≤y))&&(A3 n d).all fun y=>decide (0≤y)&&decide (y≤36)
def F8 (n a b:Nat):Bool:=(((Bt n).drop a).take b).all fun d=>XW n d
theorem Zb:F8 1 0 1000=true:=by decide +kernel
theorem Ze:F8 2 0 1000=true:=by decide +kernel
theorem Xv:F8 3 0 1000=true:=by decide +kernel
theorem Tz:F8 4 0 80=true:=by decide +kernel
theorem Uv:F8 4 80 80=true:=by decide +kernel
theorem Tb:F8 4 160 1000=true:=by decide +kernel
theorem SC {m:Nat}{d:List Int}(h1:1≤m)(h4:m≤4)(hd:d∈Bt m):XW m d=true:=by
  have one:∀ n,F8 n 0 1000=true→(Bt n).length≤1000→d∈Bt n→XW n d=true:=fun n h hl hd=>by
    simp only[F8,List.all_eq_true] at h
    exact h d (by rw[List.drop_zero,List.take_of_length_le hl];exact hd)
  have len:∀ n,1≤n→n≤4→(Bt n).length≤1000:=fun n a b=>four (P:=fun n=>(Bt n).length≤1000) (by decide +kernel) (by decide +kernel) (by decide +kernel) (by decide +kernel) a b
  rcases(by omega:m=1∨m=2∨m=3∨m=4) with rfl | rfl | rfl | rfl
  · exact one 1 Zb (len 1 (by omega) (by omega)) hd
  · exact one 2 Ze (len 2 (by omega) (by omega)) hd
  · exact one 3 Xv (len 3 (by omega) (by omega)) hd
  · have ha:=Tz
    have hb:=Uv
    have hc:=Tb
    simp only[F8,List.all_eq_true] at ha hb hc
    rcases mem_parts 80 hd with h | h
    · exact ha d h
    · rcases mem_parts 80 h with h2 | h2
      · exact hb d (by simpa using h2)
      · rw[List.drop_drop] at h2
        exact hc d (by
          have hl:=len 4 (by omega) (by omega)
          rw[List.take_of_length_le (by rw[List.length_drop];omega)]
          simpa using h2)
theorem Fh (x:List Int):Av (Av x)=x:=by
  simp only[Av,List.map_map]
  refine(List.map_congr_left fun y _=>?_).trans (List.map_id x)
  simp
structure RnOk (n:Int)(d:List Int):Prop where
  pos:∀ x∈rSt n d,2≤Tg n d (A3 n d) x
  nz:∀ x∈rSt n d,∃ k,k<x.length∧1≤x.getD k 0
  len:∀ k,0≤(A3 n d).getD k 0∧(A3 n d).getD k 0≤36
theorem PG {n:Int}{d:List Int}(h:(Ax n d).isSome=true):RnOk n d:=by
  have hr:=rtOk h
  obtain⟨ks,hk⟩:=Option.isSome_iff_exists.1 h
  obtain⟨m,rfl,h1,h4,hd⟩:=D3 hk
  have h0:=SC h1 h4 hd
  simp only[XW,Bool.and_eq_true,List.all_eq_true,List.any_eq_true,decide_eq_true_eq] at h0
  obtain⟨a1,a2⟩:=h0
  refine⟨fun x hx=>(a1 x (hr.perm.mem_iff.1 hx)).1,fun x hx=>?_,fun k=>?_⟩
  · obtain⟨y,hy,hy1⟩:=(a1 x (hr.perm.mem_iff.1 hx)).2
    obtain⟨k,hk,rfl⟩:=List.mem_iff_getElem.1 hy
    exact⟨k,hk,by simpa [List.getD,hk] using hy1⟩
  · by_cases hk:k<(A3 (m:Int) d).length
    · have e:(A3 (m:Int) d).getD k 0=(A3 (m:Int) d)[k]:=by simp[List.getD,hk]
      rw[e]
      exact a2 _ (List.getElem_mem hk)
    · simp[List.getD,List.getElem?_eq_none (Nat.le_of_not_lt hk)]
theorem Bw (x:List Int)(k:Nat):(Av x).getD k 0 = -(x.getD k 0):=by
  by_cases hk:k<x.length
  · simp[Av,List.getD,hk]
  · simp[Av,List.getD,List.getElem?_eq_none (Nat.le_of_not_lt hk)]
theorem Lp (c w:Nat→Int):∀ m:Nat,dotN (fun k => -(c k)) (fun k => -(w k)) m=dotN c w m
  | 0=>rfl
  | m+1=>by rw[dotN,dotN,Lp c w m,Int.neg_mul_neg]
theorem Ly (n:Int)(d l x:List Int):Tg n d l (Av x)=Tg n d l x:=by
  unfold Tg
  refine Eq.trans (CR (c':=fun i => -(x.getD i 0*l.getD i 0)) (w':=fun i => -(dotN (fun k=>atI n d i k) (x.getD · 0) n.toNat)) fun i _=>⟨?_,?_⟩) (Lp _ _ _)
  · simp only[Bw,Int.neg_mul]
  · simp only[Bw]
    exact N4 _ _ _
theorem A9 {a b A B:Int}(ha : -A≤a∧a≤A)(hb : -B≤b∧b≤B) : -(A*B)≤a*b∧a*b≤A*B:=by
  have h1:=Int.mul_nonneg (show 0≤A - a by omega) (show 0≤B - b by omega)
  have h2:=Int.mul_nonneg (show 0≤A+a by omega) (show 0≤B+b by omega)
  have h3:=Int.mul_nonneg (show 0≤A - a by omega) (show 0≤B+b by omega)
  have h4:=Int.mul_nonneg (show 0≤A+a by omega) (show 0≤B - b by omega)
  simp only[Int.sub_mul,Int.mul_sub,Int.add_mul,Int.mul_add] at h1 h2 h3 h4
  omega
theorem Ty {n:Int}{d x y:List Int}(h:(Ax n d).isSome=true)(hx:Dk n x=true)(hy:Dk n y=true):(EH n d x y=dotN (fun i=>x.getD i 0*(A3 n d).getD i 0) (fun i=>(wtF n d y).getD i 0) x.length) ∧ -1728000000≤EH n d x y∧EH n d x y≤1728000000:=by
  have hr:=rtOk h
  have hn:=PG h
  have hlo:=hr.lo
  have hrk:=hr.rk
  have hxl:=Fc hx
  have hyl:=Fc hy
  have hw:∀ k, -12000≤(wtF n d y).getD k 0∧(wtF n d y).getD k 0≤12000:=fun k=>by
    by_cases hk:k<n.toNat
    · exact(GR hr.mat (Gj hy) (by omega) hrk hk).2
    · have:(wtF n d y).length≤k:=by rw[Dj];omega
      simp[List.getD,List.getElem?_eq_none this]
  have key:∀ m:Nat,m≤x.length→(List.range m).foldl (fun(s:Int) (i:Nat)=>IntKind.i64.wrap (s+IntKind.i64.wrap (IntKind.i64.wrap (x.getD i 0*(A3 n d).getD i 0)*(wtF n d y).getD i 0))) 0=dotN (fun i=>x.getD i 0*(A3 n d).getD i 0) (fun i=>(wtF n d y).getD i 0) m ∧
      -(432000000*(m:Int))≤dotN (fun i=>x.getD i 0*(A3 n d).getD i 0) (fun i=>(wtF n d y).getD i 0) m∧dotN (fun i=>x.getD i 0*(A3 n d).getD i 0) (fun i=>(wtF n d y).getD i 0) m≤432000000*(m:Int):=by
    intro m
    induction m with
    | zero=>intro _;simp[dotN]
    | succ m ih =>
      intro hm
      obtain⟨h0,h1⟩:=ih (by omega)
      have h2:=Gj hx m (by omega)
      have h3:=hn.len m
      have h4:=A9 (A:=1000) (B:=36) (a:=x.getD m 0) (b:=(A3 n d).getD m 0) (by omega) (by omega)
      have h5:=A9 (A:=36000) (B:=12000) (a:=x.getD m 0*(A3 n d).getD m 0) (b:=(wtF n d y).getD m 0) (by omega) (hw m)
      rw[A6,h0,Aj (x:=x.getD m 0*(A3 n d).getD m 0) (by omega) (by omega),Aj (x:=x.getD m 0*(A3 n d).getD m 0*(wtF n d y).getD m 0) (by omega) (by omega),Aj (by omega) (by omega),dotN]
      refine⟨rfl,?_⟩
      omega
  have:=key x.length (Nat.le_refl _)
  unfold EH
  refine⟨this.1,?_⟩
  omega
theorem PH {n:Int}{d x y:List Int}(h:(Ax n d).isSome=true)(hx:Dk n x=true)(hy:Dk n y=true) : -1728000000≤EH n d x y∧EH n d x y≤1728000000:=(Ty h hx hy).2
theorem Rc {n:Int}{d x:List Int}(h:(Ax n d).isSome=true)(hx:Dk n x=true):EH n d x x=Tg n d (A3 n d) x:=by
  have hr:=rtOk h
  have hlo:=hr.lo
  have hrk:=hr.rk
  have hxl:=Fc hx
  rw[(Ty h hx hx).1,Tg,show x.length=n.toNat by omega]
  exact CR fun k hk=>⟨rfl,(GR hr.mat (Gj hx) (by omega) hrk hk).1⟩
theorem TS {n:Int}{d x:List Int}(h:(Ax n d).isSome=true)(hw:Dk n x=true)(hx:rtB (rSt n d) x=true):2≤EH n d x x:=by
  have hn:=PG h
  rw[Rc h hw]
  rw[rtB,Bool.or_eq_true] at hx
  rcases hx with hx | hx
  · exact hn.pos x (List.contains_iff_mem.1 hx)
  · have:=hn.pos _ (List.contains_iff_mem.1 hx)
    rwa [Ly] at this
def Dm (n:Int)(d r:List Int):Int:=IntKind.i64.wrap ((EH n d r r).tdiv 2)
def S6 (n:Int)(d r:List Int)(i:Nat):Int:=IntKind.i64.wrap ((IntKind.i64.wrap (r.getD i 0*(A3 n d).getD i 0)).tdiv (Dm n d r))
def crF (n:Int)(d r:List Int):List Int:=(List.range r.length).map (S6 n d r)
theorem C4 {a b:Int}(hb:1≤b){A:Int}(h : -A≤a∧a≤A) : -A≤a.tdiv b∧a.tdiv b≤A:=by
  have h1:(a.tdiv b).natAbs≤a.natAbs:=by
    rw[Int.natAbs_tdiv]
    exact Nat.div_le_self _ _
  omega
theorem Qh {n:Int}{d r:List Int}(h:2≤EH n d r r∧EH n d r r≤2000000000):1≤Dm n d r:=by
  have h1:1≤(EH n d r r).tdiv 2:=by rw[Int.tdiv_eq_ediv_of_nonneg (by omega)];omega
  have h2:=C4 (a:=EH n d r r) (b:=2) (by omega) (A:=2000000000) (by omega)
  rw[Dm,Aj (by omega) (by omega)]
  exact h1
theorem XV {n:Int}{d r:List Int}{i:Nat}:(List.range i).map (S6 n d r)++[S6 n d r i]=(List.range (i+1)).map (S6 n d r):=by rw[List.range_succ,List.map_append];rfl
theorem Zw {n:Int}{d r:List Int}{m:Nat}:(List.range m).foldl (fun(o:List Int) (i:Nat)=>o.set i (S6 n d r i)) (List.replicate m 0)=(List.range m).map (S6 n d r):=by
  have hl:((List.range m).foldl (fun(o:List Int) (i:Nat)=>o.set i (S6 n d r i)) (List.replicate m 0)).length=m:=by rw[Co (fun o i=>by simp),List.length_replicate]
  refine A0 (by rw[hl];simp) fun k hk=>?_
  rw[hl] at hk
  have hg:=CC (g:=fun i (_:Int)=>S6 n d r i) (o:=List.replicate m 0) (m:=m) (k:=k) (by simp) (by simpa using hk)
  rw[if_pos hk] at hg
  refine hg.trans ?_
  simp[List.getD,hk]
end Go.Proofs.YtbmnnbglipkidaaGreatDoor
