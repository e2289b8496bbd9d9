/-
  The numbers that make a Cartan matrix symmetric, as both texts compute them: told as the work that is left from a place on; that both give the same is checked by the kernel over all Cartan matrices.
-/
import Derived.Test.YtbmnnbglipkidaaGreatDoorZ28
import Derived.Lib.FrozenHead
import Derived.Test.YtbmnnbglipkidaaGreatDoorZ23
import Derived.Shelf.Spec.SlicesGrow
namespace Go.Proofs.YtbmnnbglipkidaaGreatDoor
set_option linter.unusedVariables false
set_option linter.unusedSimpArgs false
abbrev lnV (n:Int)(d o:List Int)(r:Int)(j:Nat):Int:=IntKind.i64.wrap ((IntKind.i64.wrap (o.getD r.toNat 0*atI n d r j)).tdiv (atI n d j r))
def lsJ (n:Int)(d:List Int)(r:Int):Nat→Nat→List Int→Option (List Int)
  | 0,_,o=>some o
  | m+1,j,o=>if o.getD j 0==0&&atI n d r j != 0 then(if atI n d j r==0 then none else lsJ n d r m (j+1) (o.set j (lnV n d o r j))) else lsJ n d r m (j+1) o
def liJ (n:Int)(d:List Int)(k:Nat):Nat→Nat→List Int→List Int→Option (List Int × List Int)
  | 0,_,o,p=>some (o,p)
  | m+1,j,o,p=>if o.getD j 0==0&&atI n d (p.getD k 0) j != 0 then(if atI n d j (p.getD k 0)==0 then none else liJ n d k m (j+1) (o.set j (lnV n d o (p.getD k 0) j)) (p++[(j:Int)])) else liJ n d k m (j+1) o p
theorem sub_one {a b:Nat}(h:b<a):a - b=(a - (b+1))+1:=by omega
theorem liJ_end {n:Int}{d:List Int}{k N j:Nat}{o p:List Int}{x:List Int × List Int}(h:liJ n d k (N - j) j o p=some x)(hj:N≤j):(o,p)=x:=by
  rw[show N - j=0 by omega] at h
  simpa [liJ] using h
theorem liJ_no {n:Int}{d:List Int}{k N j:Nat}{o p:List Int}{x:List Int × List Int}(h:liJ n d k (N - j) j o p=some x)(hj:j<N)(hc:(o.getD j 0==0&&atI n d (p.getD k 0) j != 0)=false):liJ n d k (N - (j+1)) (j+1) o p=some x:=by
  rw[sub_one hj,liJ,hc] at h
  simpa using h
theorem liJ_yes {n:Int}{d:List Int}{k N j:Nat}{o p:List Int}{x:List Int × List Int}(h:liJ n d k (N - j) j o p=some x)(hj:j<N)(h1:o.getD j 0=0)(h2:atI n d (p.getD k 0) j≠0):atI n d j (p.getD k 0)≠0∧liJ n d k (N - (j+1)) (j+1) (o.set j (lnV n d o (p.getD k 0) j)) (p++[(j:Int)])=some x:=by
  rw[sub_one hj,liJ,if_pos (by rw[h1,bne_iff_ne.2 h2];rfl)] at h
  split at h
  · cases h
  · rename_i hz
    exact⟨fun e=>hz (by rw[e];rfl),h⟩
theorem and_no1 {a b:Bool}(h:a=false):(a&&b)=false:=by rw[h];rfl
theorem and_no2 {a:Bool}{x:Int}(h:x=0):(a&&(x != 0))=false:=by rw[h];simp
def lsM (o:List Int)(r a:Int):Int:=if o.getD r.toNat 0<a then o.getD r.toNat 0 else a
def lsK (n:Int)(d rows:List Int):Nat→Nat→List Int→Int→Option (List Int × Int)
  | 0,_,o,a=>some (o,a)
  | m+1,k,o,a=>(lsJ n d (rows.getD k 0) n.toNat 0 o).bind fun o2=>lsK n d rows m (k+1) o2 (lsM o2 (rows.getD k 0) a)
def liK (n:Int)(d:List Int):Nat→Nat→List Int→List Int→Option (List Int × List Int)
  | 0,_,_,_=>none
  | f+1,k,o,p=>if k<p.length then(liJ n d k n.toNat 0 o p).bind fun x=>liK n d f (k+1) x.1 x.2 else some (o,p)
theorem liK_end {n:Int}{d:List Int}{f k:Nat}{o p:List Int}{x:List Int × List Int}(h:liK n d f k o p=some x)(hk:p.length≤k):(o,p)=x:=by
  cases f with
  | zero=>cases h
  | succ f =>
    rw[liK,if_neg (by omega)] at h
    simpa using h
theorem liK_step {n:Int}{d:List Int}{f k:Nat}{o p:List Int}{x:List Int × List Int}(h:liK n d f k o p=some x)(hk:k<p.length):∃ g y q,f=g+1∧liJ n d k (n.toNat - 0) 0 o p=some (y,q)∧liK n d g (k+1) y q=some x:=by
  cases f with
  | zero=>cases h
  | succ f =>
    rw[liK,if_pos hk] at h
    obtain⟨y,h1,h2⟩:=Option.bind_eq_some_iff.1 h
    exact⟨f,y.1,y.2,rfl,h1,h2⟩
def liM (o p:List Int)(a:Int)(m:Nat):Int:=(List.range m).foldl (fun(a:Int) (t:Nat)=>min a (o.getD (p.getD t 0).toNat 0)) a
def dvL (p:List Int)(a:Int):Nat→Nat→List Int→Option (List Int)
  | 0,_,o=>some o
  | m+1,k,o=>if a==0 then none else dvL p a m (k+1) (o.set (p.getD k 0).toNat (IntKind.i64.wrap ((o.getD (p.getD k 0).toNat 0).tdiv a)))
theorem dvL_end {p:List Int}{a:Int}{N k:Nat}{o x:List Int}(h:dvL p a (N - k) k o=some x)(hj:N≤k):o=x:=by
  rw[show N - k=0 by omega] at h
  simpa [dvL] using h
theorem dvL_step {p:List Int}{a:Int}{N k:Nat}{o x:List Int}(h:dvL p a (N - k) k o=some x)(hj:k<N):a≠0∧dvL p a (N - (k+1)) (k+1) (o.set (p.getD k 0).toNat (IntKind.i64.wrap ((o.getD (p.getD k 0).toNat 0).tdiv a)))=some x:=by
  rw[sub_one hj,dvL] at h
  split at h
  · cases h
  · rename_i hz
    exact⟨fun e=>hz (by rw[e];rfl),h⟩
def lsO (n:Int)(d:List Int):Nat→Nat→List Int→Option (List Int)
  | 0,_,o=>some o
  | m+1,i,o=>if o.getD i 0 != 0 then lsO n d m (i+1) o else(lsK n d (partF n d i) (partF n d i).length 0 (o.set i 6) 6).bind fun x=>(dvL (partF n d i) x.2 (partF n d i).length 0 x.1).bind fun o3=>lsO n d m (i+1) o3
def liO (n:Int)(d:List Int):Nat→Nat→List Int→Option (List Int)
  | 0,_,o=>some o
  | m+1,i,o=>if o.getD i 0 != 0 then liO n d m (i+1) o else(liK n d 6 0 (o.set i 36) [(i:Int)]).bind fun x=>(dvL x.2 (liM x.1 x.2 (x.1.getD i 0) x.2.length) x.2.length 0 x.1).bind fun o3=>liO n d m (i+1) o3
theorem liO_end {n:Int}{d:List Int}{N i:Nat}{o x:List Int}(h:liO n d (N - i) i o=some x)(hj:N≤i):o=x:=by
  rw[show N - i=0 by omega] at h
  simpa [liO] using h
theorem liO_no {n:Int}{d:List Int}{N i:Nat}{o x:List Int}(h:liO n d (N - i) i o=some x)(hj:i<N)(hc:o.getD i 0≠0):liO n d (N - (i+1)) (i+1) o=some x:=by
  rw[sub_one hj,liO,if_pos (bne_iff_ne.2 hc)] at h
  exact h
theorem liO_yes {n:Int}{d:List Int}{N i:Nat}{o x:List Int}(h:liO n d (N - i) i o=some x)(hj:i<N)(hc:o.getD i 0=0) :
    ∃ y q z,liK n d 6 0 (o.set i 36) [(i:Int)]=some (y,q)∧dvL q (liM y q (y.getD i 0) q.length) (q.length - 0) 0 y=some z∧liO n d (N - (i+1)) (i+1) z=some x:=by
  rw[sub_one hj,liO,if_neg (by rw[hc];simp)] at h
  obtain⟨y,h1,h2⟩:=Option.bind_eq_some_iff.1 h
  obtain⟨z,h3,h4⟩:=Option.bind_eq_some_iff.1 h2
  exact⟨y.1,y.2,z,h1,h3,h4⟩
def lenF (n:Int)(d:List Int):List Int:=(lsO n d n.toNat 0 (List.replicate n.toNat 0)).getD []
def chkL (n:Nat):Bool:=(candL n).all fun d=>(lsO n d n 0 (List.replicate n 0)==some (lenF n d))&&(liO n d n 0 (List.replicate n 0)==some (lenF n d))&&((lenF n d).length==n)
set_option maxRecDepth 100000 in
theorem chkL_all {m:Nat}:1≤m→m≤4→chkL m=true:=four (P:=fun m=>chkL m=true) (by decide +kernel) (by decide +kernel) (by decide +kernel) (by decide +kernel)
theorem len_ok {n:Int}{d:List Int}(h:(tyS n d).isSome=true):lsO n d (n.toNat - 0) 0 (List.replicate n.toNat 0)=some (lenF n d)∧liO n d (n.toNat - 0) 0 (List.replicate n.toNat 0)=some (lenF n d)∧(lenF n d).length=n.toNat:=by
  obtain⟨ks,hk⟩:=Option.isSome_iff_exists.1 h
  obtain⟨m,rfl,h1,h4,hd⟩:=tyS_cand hk
  have:=chkL_all h1 h4
  simp only[chkL,List.all_eq_true] at this
  have:=this d hd
  simp only[Bool.and_eq_true,beq_iff_eq] at this
  exact⟨this.1.1,this.1.2,this.2⟩
def inF (n:Int)(d x y:List Int):Int:=(List.range x.length).foldl (fun(s:Int) (i:Nat)=>IntKind.i64.wrap (s+IntKind.i64.wrap (IntKind.i64.wrap (x.getD i 0*(lenF n d).getD i 0)*(wtF n d y).getD i 0))) 0
end Go.Proofs.YtbmnnbglipkidaaGreatDoor
namespace Go.Proofs.YtbmnnbglipkidaaGreatDoor
set_option linter.unusedVariables false
set_option linter.unusedSimpArgs false
open Go.RowKit
section
variable {P:Program}{n:Nat}{env:List (Nat × Value)}{W:World}{own:List Asn}{o:Oper}
theorem OD.min {c:Call}{x y:Operand}{k:IntKind}{i j:Int}{ts:Array TypeId}(hop:o.op = .call c)(hc:c={ callee := .builtin .min,args:=#[x,y],argTypes:=ts })(hx:ev env x=some (.int k i))(hy:ev env y=some (.int k j)):OD P o n env W own (.int k (Min.min i j)) own :=
  .of fun a w hf _=>by
    subst hc
    have e:(if j<i then j else i)=Min.min i j:=by
      by_cases h:j<i
      · rw[if_pos h,Int.min_eq_right (by omega)]
      · rw[if_neg h,Int.min_eq_left (by omega)]
    have h:=run_min_int2 (P:=P) (w:=w) ts o.type k k i j
    rw[e] at h
    simp only[execOp,hop,resolve,invoke,builtin,hf.ev hx,hf.ev hy]
    simpa [hf.ev hx,hf.ev hy] using run_val h
section
variable {e sz m:Nat}{x:Operand}{v u zero:Value}{cs us:List Value}{pl:List (Nat × Nat)}{j d i:Nat}
end
end
end Go.Proofs.YtbmnnbglipkidaaGreatDoor
namespace Go.Proofs
set_option linter.unusedVariables false
set_option linter.unusedSimpArgs false
open Go.Shelf
def Tryz.l4_ren:Go.Shelf.Ren:=⟨fun | 4=>169 | n=>n,fun | 22=>22 | 25=>3 | 3=>3 | 4=>4 | 9=>9 | 20=>20 | 0=>0 | n=>n,fun | n=>n⟩
theorem Tryz.l4:Go.Proofs.Lays8.n4 Tryz.prog Tryz.l4_ren:={
  mixed:=by kernel_rfl,
  f4:=⟨"slices.Grow[[]int,int]",by decide,Tryz.func169.trans (congrArg some (by kernel_rfl))⟩,
  t0:=Tryz.underlying0,
  a0:=Tryz.isAgg0,
  z0:=Tryz.sizeOf0,
  v0:=Tryz.zeroValue0,
  t3:=Tryz.underlying3,
  a3:=Tryz.isAgg3,
  z3:=Tryz.sizeOf3,
  v3:=Tryz.zeroValue3,
  t4:=Tryz.underlying4,
  a4:=Tryz.isAgg4,
  z4:=Tryz.sizeOf4,
  v4:=Tryz.zeroValue4,
  t9:=Tryz.underlying9,
  a9:=Tryz.isAgg9,
  z9:=Tryz.sizeOf9,
  v9:=Tryz.zeroValue9,
  t20:=Tryz.underlying20,
  a20:=Tryz.isAgg20,
  z20:=Tryz.sizeOf20,
  v20:=Tryz.zeroValue20,
  t22:=Tryz.underlying22,
  a22:=Tryz.isAgg22,
  z22:=Tryz.sizeOf22,
  v22:=Tryz.zeroValue22 }
end Go.Proofs
namespace Go.Proofs.YtbmnnbglipkidaaGreatDoor
set_option linter.unusedVariables false
set_option linter.unusedSimpArgs false
open Go.RowKit
theorem alloc_sizeW (w:World)(o:Obj):(w.alloc o).heap.size=w.heap.size+1:=Array.size_push ..
theorem grow_w {W:World}{own:List Asn}{n:Int}(hn:0≤n∧n≤1073741824) :
    Spec Tryz.prog 169 [.slice none 0 0,.int .i64 n] W own fun v ow=>∃ r,v=r∧IsS r∧ow=ints 3 r []::own:=by
  intro w hs
  obtain⟨n,rfl⟩:∃ k:Nat,n=(k:Int):=⟨n.toNat,by omega⟩
  by_cases h0:n=0
  · subst h0
    refine(Any8.slices_Grow_room Tryz.l4 none 0 0 0 w (by omega) (by omega) (by omega) (by omega)).mono fun e w' ⟨he,hw⟩=>⟨_,_,he,⟨_,rfl,IsS.nil,rfl⟩,?_⟩
    subst hw
    exact hs.push (Below.refl _ _) _ (fun _=>False) ⟨.inl ⟨rfl,rfl,rfl⟩,fun k=>by simp[Value.ownBlock]⟩ fun k hk=>hk.elim
  · have hm:(Tryz.prog.info? (Tryz.l4_ren.t 25)).map (fun i=>(i.zero,i.size,i.bytes))=some (some (.int .i64 0),1,8):=by kernel_rfl
    obtain⟨i0,hi0,hi1⟩:=Option.map_eq_some_iff.1 hm
    have hz0:=congrArg (·.1) hi1
    have hs0:i0.size=1:=congrArg (·.2.1) hi1
    have hb0:i0.bytes=8:=congrArg (·.2.2) hi1
    refine(Any8.slices_Grow_grow Tryz.l4 i0 _ hi0 hz0 (by omega) none 0 0 n [] w (by omega) (by omega) (by rw[hb0];omega) (by omega) (by simp) (fun _=>rfl) (fun _ h=>by cases h)).mono fun e w' ⟨he,hw⟩=>⟨_,_,he,⟨_,rfl,⟨_,_,_,rfl⟩,rfl⟩,?_⟩
    subst hw
    have hge:=grownCap_ge w (0+n) 0 (Tryz.l4_ren.t 25)
    have hmx:=grownCap_le_maxLen w (0+n) 0 (Tryz.l4_ren.t 25) (by simp[maxLen];omega)
    refine hs.push ?_ _ (fun k=>k=w.heap.size) ⟨.inr ⟨rfl,w.heap.size,_,_,rfl,Nat.zero_le _,heap_alloc_new w.drew _,Nat.zero_le _,hmx,?_,?_⟩,fun k=>by simp[Value.ownBlock,eq_comm]⟩ (fun k hk=>by subst hk;exact⟨Nat.le_refl _,by rw[alloc_sizeW];exact Nat.lt_succ_self _⟩)
    · exact((Below.refl _ _).drew).alloc (Nat.le_refl _) _
    · rw[Array.size_append,Array.size_append,size_zeroCells,size_zeroCells]
      rw[Nat.zero_add] at hge
      simp[Value.cells]
      omega
    · simp
end Go.Proofs.YtbmnnbglipkidaaGreatDoor
