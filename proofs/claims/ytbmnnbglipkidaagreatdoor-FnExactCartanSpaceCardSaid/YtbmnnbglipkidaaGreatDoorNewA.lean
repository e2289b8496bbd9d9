/-
  The first text's roots in plain words: where each stands, as a map tells it.
-/
import Derived.Test.YtbmnnbglipkidaaGreatDoorNest
import Derived.Test.YtbmnnbglipkidaaGreatDoorZ16
namespace Go.Proofs.YtbmnnbglipkidaaGreatDoor
set_option maxRecDepth 100000
set_option linter.unusedVariables false
set_option linter.unusedSimpArgs false
open Go.RowKit
theorem cong2 {α β γ:Type}(F:α→β→γ){a a':α}{b b':β}(h1:a=a')(h2:b=b'):F a b=F a' b':=by rw[h1,h2]
def usOf:Value→List Value
  | .agg a=>a.toList
  | _=>[]
def kzL:Nat→List (List Int)→List (List Int × Int)
  | _,[]=>[]
  | n,x::t=>(x,(n:Int))::kzL (n+1) t
theorem kzL_app:∀ (L:List (List Int)) (n:Nat) (y:List Int),kzL n (L++[y])=kzL n L++[(y,((n+L.length:Nat):Int))]
  | [],n,y=>by simp[kzL]
  | x::t,n,y=>by
    rw[List.cons_append,kzL,kzL,kzL_app t (n+1) y]
    simp only[List.cons_append,List.length_cons]
    rw[show n+1+t.length=n+(t.length+1) by omega]
theorem alu_kz (x:List Int):∀ (L:List (List Int)) (n:Nat),(alu x (kzL n L)).isSome=L.contains x
  | [],n=>rfl
  | y::t,n=>by
    rw[kzL,alu,List.contains_cons]
    by_cases h:x=y
    · rw[if_pos h]
      simp[h]
    · rw[if_neg h,alu_kz x t (n+1)]
      simp[h]
theorem aup_none {α β:Type}[DecidableEq α]{k:α}{v:β}:∀ {l:List (α × β)},alu k l=none→aup k v l=l++[(k,v)]
  | [],_=>rfl
  | (a,b)::t,h=>by
    rw[alu] at h
    split at h
    · cases h
    · rename_i hn
      rw[aup,if_neg hn,aup_none h]
      rfl
theorem aup_kz {L:List (List Int)}{y:List Int}(h:L.contains y=false):aup y (L.length:Int) (kzL 0 L)=kzL 0 (L++[y]):=by
  have h1:=alu_kz y L 0
  rw[h] at h1
  rw[aup_none (Option.isSome_eq_false_iff.1 h1 |> Option.isNone_iff_eq_none.1),kzL_app,Nat.zero_add]
theorem unit_new {m i:Nat}(hi:i<m):((List.range i).map (unitL m)).contains (unitL m i)=false:=by
  cases e:((List.range i).map (unitL m)).contains (unitL m i) with
  | false=>rfl
  | true =>
    exfalso
    rw[List.contains_iff_mem] at e
    obtain⟨j,hj,hu⟩:=List.mem_map.1 e
    have hji:j<i:=by simpa using hj
    have h1:(unitL m j).getD i 0=if i=j then 1 else 0:=by simp[unitL,List.getD,hi]
    have h2:(unitL m i).getD i 0=if i=i then 1 else 0:=by simp[unitL,List.getD,hi]
    rw[hu,h2,if_pos rfl,if_neg (by omega)] at h1
    omega
theorem aup_unit {m i:Nat}(hi:i<m):aup (unitL m i) (i:Int) (kzL 0 ((List.range i).map (unitL m)))=kzL 0 ((List.range (i+1)).map (unitL m)):=by
  have h:=aup_kz (unit_new hi)
  rw[units_next] at h
  simpa using h
def rPl (os:List (List Int))(p:Nat)(l:List (List Int × Int)):List (List Int × Int):=(List.range p).foldl (fun l i=>aup (os.getD i []) (i:Int) l) l
def rKvs (n:Int)(d:List Int):List (List Int × Int):=rPl (rSt n d) (rSt n d).length (kzL 0 (rFd n d))
theorem rPl_succ (os:List (List Int))(p:Nat)(l:List (List Int × Int)):rPl os (p+1) l=aup (os.getD p []) (p:Int) (rPl os p l):=by rw[rPl,foldl_succ];rfl
def plO (L:List (List Int))(x:List Int):Option Int:=if L.contains x then some (plF L x) else none
theorem samB_eq {x y:List Int}:samB y x=decide (x=y):=by
  unfold samB
  exact decide_eq_decide.2 eq_comm
theorem plF_nodup {L:List (List Int)}(h:L.Nodup){p:Nat}(hp:p<L.length):plF L (L.getD p [])=p:=by
  refine posF_at (d:=[]) hp ?_ (by rw[samB_eq];exact decide_eq_true rfl)
  rw[List.any_eq_false]
  intro y hy hs
  rw[samB_eq] at hs
  have e:=of_decide_eq_true hs
  obtain⟨j,hj,rfl⟩:=List.mem_iff_getElem.1 hy
  have hjp:j<p:=by simp at hj;omega
  have hjl:j<L.length:=by omega
  rw[List.getElem_take] at e
  have e2:L.getD p []=L[p]:=by simp[List.getD,hp]
  rw[e2] at e
  exact List.pairwise_iff_getElem.1 h j p hjl hp hjp e.symm
theorem alu_rPl {os:List (List Int)}(h:os.Nodup)(x:List Int)(l:List (List Int × Int)):∀ {p:Nat},p≤os.length→alu x (rPl os p l)=if (os.take p).contains x then some (plF os x) else alu x l
  | 0,_=>by simp[rPl]
  | p+1,hp=>by
    rw[rPl_succ,alu_aup,alu_rPl h x l (by omega),takeD_snoc (d:=[]) (by omega)]
    by_cases e:x=os.getD p []
    · rw[if_pos e,if_pos (by simp[e])]
      rw[e,plF_nodup h (by omega)]
    · rw[if_neg e]
      have e2:(os.take p++[os.getD p []]).contains x=(os.take p).contains x:=by
        rw[Bool.eq_iff_iff]
        simp only[List.contains_iff_mem,List.mem_append,List.mem_singleton]
        exact⟨fun h=>h.resolve_right e,.inl⟩
      rw[e2]
theorem RtOk.snod {n:Int}{d:List Int}(h:RtOk n d):(rSt n d).Nodup:=h.perm.nodup_iff.2 h.nod
theorem RtOk.look {n:Int}{d:List Int}(h:RtOk n d)(x:List Int):alu x (rKvs n d)=plO (rSt n d) x:=by
  rw[rKvs,alu_rPl h.snod x _ (Nat.le_refl _),List.take_length,plO]
  by_cases hc:(rSt n d).contains x
  · rw[if_pos hc,if_pos hc]
  · rw[if_neg hc,if_neg hc]
    have h1:=alu_kz x (rFd n d) 0
    have h2:(rFd n d).contains x=false:=by
      cases e:(rFd n d).contains x with
      | false=>rfl
      | true =>
        rw[List.contains_iff_mem,← h.perm.mem_iff,← List.contains_iff_mem] at e
        exact absurd e hc
    rw[h2] at h1
    exact Option.isNone_iff_eq_none.1 (Option.isSome_eq_false_iff.1 h1)
theorem RtOk.pos {n:Int}{d:List Int}(h:RtOk n d):n.toNat≤(rFd n d).length:=by
  have:=(rC_pre h.run).len
  simpa [units] using this
theorem plO_some {L:List (List Int)}{x:List Int}:(plO L x).isSome=L.contains x:=by
  unfold plO
  split
  · rename_i h;rw[h];rfl
  · rename_i h;simpa using h
theorem plF_ge {L:List (List Int)}{x:List Int}:decide (0≤plF L x)=L.contains x:=by
  have h:=plF_no (L:=L) (x:=x)
  cases e:L.contains x with
  | true =>
    rw[e] at h
    have:=of_decide_eq_false h
    exact decide_eq_true (by omega)
  | false =>
    rw[e] at h
    have:=of_decide_eq_true h
    exact decide_eq_false (by omega)
theorem all64_of {x:List Int}(h:∀ k,k<x.length → -100000≤x.getD k 0∧x.getD k 0≤100000):All64 x:=fun y hy=>by
  obtain⟨k,hk,rfl⟩:=List.mem_iff_getElem.1 hy
  have h1:=h k hk
  have e:x.getD k 0=x[k]:=by simp[List.getD,hk]
  rw[e] at h1
  exact⟨by omega,by omega⟩
theorem unitL_get {m i k:Nat}(hk:k<m):(unitL m i).getD k 0=if k=i then 1 else 0:=by simp[unitL,List.getD,hk]
theorem all64_unit (m i:Nat):All64 (unitL m i):=all64_of fun k hk=>by
  rw[unitL_len] at hk
  rw[unitL_get hk]
  split <;> omega
theorem units_get {m i:Nat}:((List.range (i+1)).map (unitL m)).getD i []=unitL m i:=by simp[List.getD]
theorem RtOk.nxt {n:Int}{d:List Int}(h:RtOk n d){x:List Int}{i:Nat}(hl:x.length=n.toNat)(hb:∀ j,0≤x.getD j 0∧x.getD j 0≤10)(hi:i<n.toNat) :
    (-12000≤(wtF n d x).getD i 0∧(wtF n d x).getD i 0≤12000)∧lpF x (0 - (wtF n d x).getD i 0) (unitL n.toNat i)=rStep n d x i∧(rStep n d x i).length=n.toNat∧All64 (rStep n d x i):=by
  have hx:∀ k,k<x.length → -1000≤x.getD k 0∧x.getD k 0≤1000:=fun k _=>by have:=hb k;omega
  obtain⟨h1,h2⟩:=wtF_at h.mat hx hl h.rk hi
  refine⟨h2,lpF_step h.mat hx hl h.rk hi,by rw[rStep_len];exact hl,all64_of fun k hk=>?_⟩
  rw[rStep_len] at hk
  have hbk:=hb k
  by_cases e:k=i
  · subst e
    rw[rStep,set_getD_eq hk,← h1]
    omega
  · rw[rStep,set_getD_ne (fun he=>e he.symm)]
    omega
theorem rOne_k1 {n:Int}{d x:List Int}{L:List (List Int)}{i:Nat}(h:(alu (rStep n d x i) (kzL 0 L)).isSome=true):L=rOne n d x L i:=by
  rw[alu_kz] at h
  rw[rOne,h]
  simp
theorem rOne_k2 {n:Int}{d x:List Int}{L:List (List Int)}{i:Nat}(hx:∀ j,0≤x.getD j 0)(hi:i<x.length)(h : ¬ 0≤(rStep n d x i).getD i 0):L=rOne n d x L i:=by
  rw[rOne,posL_step hx hi,decide_eq_false h]
  rfl
theorem rOne_k3 {n:Int}{d x:List Int}{L:List (List Int)}{i:Nat}(hx:∀ j,0≤x.getD j 0)(hi:i<x.length)(h:(alu (rStep n d x i) (kzL 0 L)).isSome=false)(h2:0≤(rStep n d x i).getD i 0):L++[rStep n d x i]=rOne n d x L i:=by
  rw[alu_kz] at h
  rw[rOne,posL_step hx hi,decide_eq_true h2,h]
  rfl
theorem aup_new {n:Int}{d x:List Int}{L:List (List Int)}{i m:Nat}(h:(alu (rStep n d x i) (kzL 0 L)).isSome=false)(hm:m=L.length):aup (rStep n d x i) (m:Int) (kzL 0 L)=kzL 0 (L++[rStep n d x i]):=by
  rw[alu_kz] at h
  rw[hm]
  exact aup_kz h
def ngF (x:List Int):List Int:=lpF (List.replicate x.length 0) (-1) x
def fdP (n:Int)(kv:List (List Int × Int))(x:List Int):Int:=if (x.length:Int)≠n then 0 else if (alu x kv).isSome then(alu x kv).getD 0 else(alu (ngF x) kv).getD 0
def fdS (n:Int)(kv:List (List Int × Int))(x:List Int):Bool:=decide ((x.length:Int)=n)&&(alu x kv).isSome
def fdB (n:Int)(kv:List (List Int × Int))(x:List Int):Bool:=decide ((x.length:Int)=n)&&((alu x kv).isSome || (alu (ngF x) kv).isSome)
def fdI (n:Int)(m:Nat)(kv:List (List Int × Int))(x:List Int):Int:=if fdB n kv x then(if fdS n kv x then fdP n kv x else(m:Int)+n+fdP n kv x) else -1
theorem fold_all64 {g:Nat→List Int→Int}(hg:∀ i o,I64 (g i o)):∀ (m:Nat) (x:List Int),All64 x→All64 ((List.range m).foldl (fun(o:List Int) (i:Nat)=>o.set i (g i o)) x)
  | 0,x,h=>h
  | m+1,x,h=>by
    rw[foldl_succ]
    intro y hy
    rcases List.mem_or_eq_of_mem_set hy with hy | rfl
    · exact fold_all64 hg m x h y hy
    · exact hg _ _
theorem wrap_I64 (i:Int):I64 (IntKind.i64.wrap i):=by
  unfold I64
  rw[IntKind.wrap_i64]
  omega
theorem lpF_all64 {x y:List Int}{k:Int}(h:All64 x):All64 (lpF x k y):=fold_all64 (g:=fun i (o:List Int)=>IntKind.i64.wrap (o.getD i 0+IntKind.i64.wrap (k*y.getD i 0))) (fun i o=>wrap_I64 _) _ _ h
theorem ngF_all64 (x:List Int):All64 (ngF x):=lpF_all64 fun y hy=>by
  rw[List.eq_of_mem_replicate hy]
  exact⟨by omega,by omega⟩
theorem ngF_len (x:List Int):(ngF x).length=x.length:=by rw[ngF,lpF_len,List.length_replicate]
section
variable {P:Program}{n:Nat}{env:List (Nat × Value)}{W:World}{own:List Asn}{o:Oper}
theorem GC.nilLst {c:Code}{Q:Exit→Act→World→Prop}(e:Nat)(h:GC P c Q n env W (Proofs.YtbmnnbglipkidaaGreatDoor.lst e (.slice none 0 0) []::own)):GC P c Q n env W own:=fun a w hf hs=>h a w hf (hs.nilRow e 1)
end
theorem ngF_get {x:List Int}{k:Nat}(hk:k<x.length):(ngF x).getD k 0=IntKind.i64.wrap (0+IntKind.i64.wrap (-1*x.getD k 0)):=by
  have hg:=fset_get (g:=fun i (z:Int)=>IntKind.i64.wrap (z+IntKind.i64.wrap (-1*x.getD i 0))) (o:=List.replicate x.length 0) (m:=x.length) (k:=k) (by simp) (by simpa using hk)
  rw[if_pos hk] at hg
  have h0:(List.replicate x.length (0:Int)).getD k 0=0:=by simp[List.getD,hk]
  rw[h0] at hg
  exact hg
theorem wtOk_of {n:Int}{x:List Int}(hl:(x.length:Int)=n)(hb:∀ k,k<x.length → -1000≤x.getD k 0∧x.getD k 0≤1000):wtOk n x=true:=by
  have h2:(x.any fun y => !(inB y (-1000) 1000))=false:=by
    rw[List.any_eq_false]
    intro y hy
    obtain⟨k,hk,rfl⟩:=List.mem_iff_getElem.1 hy
    have h:=hb k hk
    have e:x.getD k 0=x[k]:=by simp[List.getD,hk]
    rw[e] at h
    simp[inB,h.1,h.2]
  rw[wtOk,h2,beq_iff_eq.2 hl]
  rfl
def rtB (L:List (List Int))(x:List Int):Bool:=L.contains x || L.contains (mnF x)
theorem RtOk.in1 {n:Int}{d:List Int}(h:RtOk n d){x:List Int}(hx:(rSt n d).contains x=true):wtOk n x=true:=by
  rw[List.contains_iff_mem] at hx
  obtain⟨h1,h2⟩:=h.smem hx
  have hlo:=h.lo
  exact wtOk_of (by omega) fun k _=>by have:=h2 k;omega
theorem RtOk.in2 {n:Int}{d:List Int}(h:RtOk n d){x:List Int}(h64:All64 x)(hx:(rSt n d).contains (ngF x)=true):wtOk n x=true:=by
  rw[List.contains_iff_mem] at hx
  obtain⟨h1,h2⟩:=h.smem hx
  have hlo:=h.lo
  rw[ngF_len] at h1
  refine wtOk_of (by omega) fun k hk=>?_
  have h3:=h2 k
  obtain⟨h5,h6⟩:=h64.get hk
  rw[ngF_get hk,IntKind.wrap_i64,IntKind.wrap_i64] at h3
  omega
theorem wt_minus {n:Int}{x:List Int}(h:wtOk n x=true):ngF x=mnF x:=lp_minus (wtOk_ent h)
theorem RtOk.fd {n:Int}{d:List Int}(h:RtOk n d)(x:List Int):fdB n (rKvs n d) x=(decide ((x.length:Int)=n)&&((rSt n d).contains x || (rSt n d).contains (ngF x))):=by
  rw[fdB,h.look,h.look,plO_some,plO_some]
theorem RtOk.rt {n:Int}{d:List Int}(h:RtOk n d){x:List Int}(h64:All64 x):fdB n (rKvs n d) x=(wtOk n x&&rtB (rSt n d) x):=by
  rw[h.fd]
  cases hw:wtOk n x with
  | true=>rw[decide_eq_true (wtOk_len hw),wt_minus hw];rfl
  | false =>
    have h1:(rSt n d).contains x=false:=by
      cases e:(rSt n d).contains x with
      | false=>rfl
      | true=>rw[h.in1 e] at hw;cases hw
    have h2:(rSt n d).contains (ngF x)=false:=by
      cases e:(rSt n d).contains (ngF x) with
      | false=>rfl
      | true=>rw[h.in2 h64 e] at hw;cases hw
    rw[h1,h2]
    simp
theorem plF_len {L:List (List Int)}{x:List Int}:plF L x≤L.length:=by
  unfold plF posF
  split
  · rename_i i h
    have:=(List.findIdx?_eq_some_iff_findIdx_eq.1 h).1
    omega
  · omega
def l7I (n:Int)(L:List (List Int))(x:List Int):Int:=if 0≤plF L x then plF L x else if plF L (mnF x)<0 then -1 else(L.length:Int)+n+plF L (mnF x)
theorem plF_c {L:List (List Int)}{x:List Int}(h:L.contains x=true):0≤plF L x:=of_decide_eq_true (plF_ge.trans h)
theorem plF_n {L:List (List Int)}{x:List Int}(h:L.contains x=false):plF L x<0:=by
  have:=of_decide_eq_false (plF_ge.trans h)
  omega
theorem RtOk.fp {n:Int}{d:List Int}(h:RtOk n d)(x:List Int):0≤fdP n (rKvs n d) x∧fdP n (rKvs n d) x≤30:=by
  have hs:=h.slen
  have hf:=h.few
  unfold fdP
  rw[h.look,h.look,plO_some]
  have key:∀ y,0≤(plO (rSt n d) y).getD 0∧(plO (rSt n d) y).getD 0≤30:=fun y=>by
    unfold plO
    split
    · rename_i hc
      have h1:=plF_c hc
      have h2:=plF_len (L:=rSt n d) (x:=y)
      simp only[Option.getD_some]
      omega
    · simp
  split
  · omega
  · split
    · exact key x
    · exact key (ngF x)
theorem RtOk.ri {n:Int}{d:List Int}(h:RtOk n d){x:List Int}(h64:All64 x):fdI n (rSt n d).length (rKvs n d) x=if wtOk n x then l7I n (rSt n d) x else -1:=by
  unfold fdI
  rw[h.rt h64]
  cases hw:wtOk n x with
  | false=>rfl
  | true =>
    have hl:=wtOk_len hw
    have e1:fdS n (rKvs n d) x=(rSt n d).contains x:=by rw[fdS,h.look,plO_some,decide_eq_true hl];rfl
    have e2:fdP n (rKvs n d) x=if (rSt n d).contains x then(plO (rSt n d) x).getD 0 else(plO (rSt n d) (mnF x)).getD 0:=by rw[fdP,if_neg (fun e=>e hl),h.look,h.look,plO_some,wt_minus hw]
    rw[e1,e2,l7I,rtB]
    cases hc:(rSt n d).contains x with
    | true =>
      have h1:=plF_c hc
      have e3:plO (rSt n d) x=some (plF (rSt n d) x):=if_pos hc
      simp[e3,h1]
    | false =>
      have h1:=plF_n hc
      rw[if_neg (show ¬ 0≤plF (rSt n d) x by omega)]
      cases hm:(rSt n d).contains (mnF x) with
      | true =>
        have h2:=plF_c hm
        have e3:plO (rSt n d) (mnF x)=some (plF (rSt n d) (mnF x)):=if_pos hm
        rw[if_neg (show ¬ plF (rSt n d) (mnF x)<0 by omega)]
        simp[e3]
      | false =>
        have h2:=plF_n hm
        rw[if_pos h2]
        simp
def ipl (n:Int)(d l:List Int)(x:List Int):Int:=dotN (fun i=>x.getD i 0*l.getD i 0) (fun i=>dotN (fun k=>atI n d i k) (x.getD · 0) n.toNat) n.toNat
def chkN (n:Int)(d:List Int):Bool :=
  ((rFd n d).all fun x=>decide (2≤ipl n d (lenF n d) x)&&x.any fun y=>decide (1≤y))&&(lenF n d).all fun y=>decide (0≤y)&&decide (y≤36)
def chkNs (n a b:Nat):Bool:=(((candL n).drop a).take b).all fun d=>chkN n d
theorem chkNs_1:chkNs 1 0 1000=true:=by decide +kernel
theorem chkNs_2:chkNs 2 0 1000=true:=by decide +kernel
theorem chkNs_3:chkNs 3 0 1000=true:=by decide +kernel
theorem chkNs_4a:chkNs 4 0 80=true:=by decide +kernel
theorem chkNs_4b:chkNs 4 80 80=true:=by decide +kernel
theorem chkNs_4c:chkNs 4 160 1000=true:=by decide +kernel
theorem chkNs_all {m:Nat}{d:List Int}(h1:1≤m)(h4:m≤4)(hd:d∈candL m):chkN m d=true:=by
  have one:∀ n,chkNs n 0 1000=true→(candL n).length≤1000→d∈candL n→chkN n d=true:=fun n h hl hd=>by
    simp only[chkNs,List.all_eq_true] at h
    exact h d (by rw[List.drop_zero,List.take_of_length_le hl];exact hd)
  have len:∀ n,1≤n→n≤4→(candL n).length≤1000:=fun n a b=>four (P:=fun n=>(candL n).length≤1000) (by decide +kernel) (by decide +kernel) (by decide +kernel) (by decide +kernel) a b
  rcases(by omega:m=1∨m=2∨m=3∨m=4) with rfl | rfl | rfl | rfl
  · exact one 1 chkNs_1 (len 1 (by omega) (by omega)) hd
  · exact one 2 chkNs_2 (len 2 (by omega) (by omega)) hd
  · exact one 3 chkNs_3 (len 3 (by omega) (by omega)) hd
  · have ha:=chkNs_4a
    have hb:=chkNs_4b
    have hc:=chkNs_4c
    simp only[chkNs,List.all_eq_true] at ha hb hc
    rcases mem_parts 80 hd with h | h
    · exact ha d h
    · rcases mem_parts 80 h with h2 | h2
      · exact hb d (by simpa using h2)
      · rw[List.drop_drop] at h2
        exact hc d (by
          have hl:=len 4 (by omega) (by omega)
          rw[List.take_of_length_le (by rw[List.length_drop];omega)]
          simpa using h2)
theorem mnF_mnF (x:List Int):mnF (mnF x)=x:=by
  simp only[mnF,List.map_map]
  refine(List.map_congr_left fun y _=>?_).trans (List.map_id x)
  simp
structure RnOk (n:Int)(d:List Int):Prop where
  pos:∀ x∈rSt n d,2≤ipl n d (lenF n d) x
  nz:∀ x∈rSt n d,∃ k,k<x.length∧1≤x.getD k 0
  len:∀ k,0≤(lenF n d).getD k 0∧(lenF n d).getD k 0≤36
theorem rnOk {n:Int}{d:List Int}(h:(tyS n d).isSome=true):RnOk n d:=by
  have hr:=rtOk h
  obtain⟨ks,hk⟩:=Option.isSome_iff_exists.1 h
  obtain⟨m,rfl,h1,h4,hd⟩:=tyS_cand hk
  have h0:=chkNs_all h1 h4 hd
  simp only[chkN,Bool.and_eq_true,List.all_eq_true,List.any_eq_true,decide_eq_true_eq] at h0
  obtain⟨a1,a2⟩:=h0
  refine⟨fun x hx=>(a1 x (hr.perm.mem_iff.1 hx)).1,fun x hx=>?_,fun k=>?_⟩
  · obtain⟨y,hy,hy1⟩:=(a1 x (hr.perm.mem_iff.1 hx)).2
    obtain⟨k,hk,rfl⟩:=List.mem_iff_getElem.1 hy
    exact⟨k,hk,by simpa [List.getD,hk] using hy1⟩
  · by_cases hk:k<(lenF (m:Int) d).length
    · have e:(lenF (m:Int) d).getD k 0=(lenF (m:Int) d)[k]:=by simp[List.getD,hk]
      rw[e]
      exact a2 _ (List.getElem_mem hk)
    · simp[List.getD,List.getElem?_eq_none (Nat.le_of_not_lt hk)]
theorem mnF_get (x:List Int)(k:Nat):(mnF x).getD k 0 = -(x.getD k 0):=by
  by_cases hk:k<x.length
  · simp[mnF,List.getD,hk]
  · simp[mnF,List.getD,List.getElem?_eq_none (Nat.le_of_not_lt hk)]
theorem dotN_neg2 (c w:Nat→Int):∀ m:Nat,dotN (fun k => -(c k)) (fun k => -(w k)) m=dotN c w m
  | 0=>rfl
  | m+1=>by rw[dotN,dotN,dotN_neg2 c w m,Int.neg_mul_neg]
theorem ipl_minus (n:Int)(d l x:List Int):ipl n d l (mnF x)=ipl n d l x:=by
  unfold ipl
  refine Eq.trans (dotN_congr (c':=fun i => -(x.getD i 0*l.getD i 0)) (w':=fun i => -(dotN (fun k=>atI n d i k) (x.getD · 0) n.toNat)) fun i _=>⟨?_,?_⟩) (dotN_neg2 _ _ _)
  · simp only[mnF_get,Int.neg_mul]
  · simp only[mnF_get]
    exact dotN_neg _ _ _
theorem mul_abs {a b A B:Int}(ha : -A≤a∧a≤A)(hb : -B≤b∧b≤B) : -(A*B)≤a*b∧a*b≤A*B:=by
  have h1:=Int.mul_nonneg (show 0≤A - a by omega) (show 0≤B - b by omega)
  have h2:=Int.mul_nonneg (show 0≤A+a by omega) (show 0≤B+b by omega)
  have h3:=Int.mul_nonneg (show 0≤A - a by omega) (show 0≤B+b by omega)
  have h4:=Int.mul_nonneg (show 0≤A+a by omega) (show 0≤B - b by omega)
  simp only[Int.sub_mul,Int.mul_sub,Int.add_mul,Int.mul_add] at h1 h2 h3 h4
  omega
theorem inF_is {n:Int}{d x y:List Int}(h:(tyS n d).isSome=true)(hx:wtOk n x=true)(hy:wtOk n y=true):(inF n d x y=dotN (fun i=>x.getD i 0*(lenF n d).getD i 0) (fun i=>(wtF n d y).getD i 0) x.length) ∧ -1728000000≤inF n d x y∧inF n d x y≤1728000000:=by
  have hr:=rtOk h
  have hn:=rnOk h
  have hlo:=hr.lo
  have hrk:=hr.rk
  have hxl:=wtOk_len hx
  have hyl:=wtOk_len hy
  have hw:∀ k, -12000≤(wtF n d y).getD k 0∧(wtF n d y).getD k 0≤12000:=fun k=>by
    by_cases hk:k<n.toNat
    · exact(wtF_at hr.mat (wtOk_ent hy) (by omega) hrk hk).2
    · have:(wtF n d y).length≤k:=by rw[wtF_len];omega
      simp[List.getD,List.getElem?_eq_none this]
  have key:∀ m:Nat,m≤x.length→(List.range m).foldl (fun(s:Int) (i:Nat)=>IntKind.i64.wrap (s+IntKind.i64.wrap (IntKind.i64.wrap (x.getD i 0*(lenF n d).getD i 0)*(wtF n d y).getD i 0))) 0=dotN (fun i=>x.getD i 0*(lenF n d).getD i 0) (fun i=>(wtF n d y).getD i 0) m ∧
      -(432000000*(m:Int))≤dotN (fun i=>x.getD i 0*(lenF n d).getD i 0) (fun i=>(wtF n d y).getD i 0) m∧dotN (fun i=>x.getD i 0*(lenF n d).getD i 0) (fun i=>(wtF n d y).getD i 0) m≤432000000*(m:Int):=by
    intro m
    induction m with
    | zero=>intro _;simp[dotN]
    | succ m ih =>
      intro hm
      obtain⟨h0,h1⟩:=ih (by omega)
      have h2:=wtOk_ent hx m (by omega)
      have h3:=hn.len m
      have h4:=mul_abs (A:=1000) (B:=36) (a:=x.getD m 0) (b:=(lenF n d).getD m 0) (by omega) (by omega)
      have h5:=mul_abs (A:=36000) (B:=12000) (a:=x.getD m 0*(lenF n d).getD m 0) (b:=(wtF n d y).getD m 0) (by omega) (hw m)
      rw[foldl_succ,h0,wrap_in (x:=x.getD m 0*(lenF n d).getD m 0) (by omega) (by omega),wrap_in (x:=x.getD m 0*(lenF n d).getD m 0*(wtF n d y).getD m 0) (by omega) (by omega),wrap_in (by omega) (by omega),dotN]
      refine⟨rfl,?_⟩
      omega
  have:=key x.length (Nat.le_refl _)
  unfold inF
  refine⟨this.1,?_⟩
  omega
theorem inF_bd {n:Int}{d x y:List Int}(h:(tyS n d).isSome=true)(hx:wtOk n x=true)(hy:wtOk n y=true) : -1728000000≤inF n d x y∧inF n d x y≤1728000000:=(inF_is h hx hy).2
theorem inF_ipl {n:Int}{d x:List Int}(h:(tyS n d).isSome=true)(hx:wtOk n x=true):inF n d x x=ipl n d (lenF n d) x:=by
  have hr:=rtOk h
  have hlo:=hr.lo
  have hrk:=hr.rk
  have hxl:=wtOk_len hx
  rw[(inF_is h hx hx).1,ipl,show x.length=n.toNat by omega]
  exact dotN_congr fun k hk=>⟨rfl,(wtF_at hr.mat (wtOk_ent hx) (by omega) hrk hk).1⟩
theorem rt_two {n:Int}{d x:List Int}(h:(tyS n d).isSome=true)(hw:wtOk n x=true)(hx:rtB (rSt n d) x=true):2≤inF n d x x:=by
  have hn:=rnOk h
  rw[inF_ipl h hw]
  rw[rtB,Bool.or_eq_true] at hx
  rcases hx with hx | hx
  · exact hn.pos x (List.contains_iff_mem.1 hx)
  · have:=hn.pos _ (List.contains_iff_mem.1 hx)
    rwa [ipl_minus] at this
def hfF (n:Int)(d r:List Int):Int:=IntKind.i64.wrap ((inF n d r r).tdiv 2)
def crI (n:Int)(d r:List Int)(i:Nat):Int:=IntKind.i64.wrap ((IntKind.i64.wrap (r.getD i 0*(lenF n d).getD i 0)).tdiv (hfF n d r))
def crF (n:Int)(d r:List Int):List Int:=(List.range r.length).map (crI n d r)
theorem tdiv_abs {a b:Int}(hb:1≤b){A:Int}(h : -A≤a∧a≤A) : -A≤a.tdiv b∧a.tdiv b≤A:=by
  have h1:(a.tdiv b).natAbs≤a.natAbs:=by
    rw[Int.natAbs_tdiv]
    exact Nat.div_le_self _ _
  omega
theorem half_ok {n:Int}{d r:List Int}(h:2≤inF n d r r∧inF n d r r≤2000000000):1≤hfF n d r:=by
  have h1:1≤(inF n d r r).tdiv 2:=by rw[Int.tdiv_eq_ediv_of_nonneg (by omega)];omega
  have h2:=tdiv_abs (a:=inF n d r r) (b:=2) (by omega) (A:=2000000000) (by omega)
  rw[hfF,wrap_in (by omega) (by omega)]
  exact h1
theorem cr_step {n:Int}{d r:List Int}{i:Nat}:(List.range i).map (crI n d r)++[crI n d r i]=(List.range (i+1)).map (crI n d r):=by rw[List.range_succ,List.map_append];rfl
end Go.Proofs.YtbmnnbglipkidaaGreatDoor
