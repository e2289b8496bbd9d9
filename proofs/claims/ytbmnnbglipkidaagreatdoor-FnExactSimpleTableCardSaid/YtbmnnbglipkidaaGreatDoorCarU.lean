/-
  The numbers that make a Cartan matrix symmetric, as both texts compute them: told as the work that is left from a place on; that both give the same is checked by the kernel over all Cartan matrices.
-/
import Derived.Test.YtbmnnbglipkidaaGreatDoorZ23
namespace Go.Proofs.YtbmnnbglipkidaaGreatDoor
set_option linter.unusedVariables false
set_option linter.unusedSimpArgs false
abbrev lnV (n:Int)(d o:List Int)(r:Int)(j:Nat):Int:=IntKind.i64.wrap ((IntKind.i64.wrap (o.getD r.toNat 0*atI n d r j)).tdiv (atI n d j r))
def lsJ (n:Int)(d:List Int)(r:Int):Nat→Nat→List Int→Option (List Int)
  | 0,_,o=>some o
  | m+1,j,o=>if o.getD j 0==0&&atI n d r j != 0 then(if atI n d j r==0 then none else lsJ n d r m (j+1) (o.set j (lnV n d o r j))) else lsJ n d r m (j+1) o
def liJ (n:Int)(d:List Int)(k:Nat):Nat→Nat→List Int→List Int→Option (List Int × List Int)
  | 0,_,o,p=>some (o,p)
  | m+1,j,o,p=>if o.getD j 0==0&&atI n d (p.getD k 0) j != 0 then(if atI n d j (p.getD k 0)==0 then none else liJ n d k m (j+1) (o.set j (lnV n d o (p.getD k 0) j)) (p++[(j:Int)])) else liJ n d k m (j+1) o p
theorem sub_one {a b:Nat}(h:b<a):a - b=(a - (b+1))+1:=by omega
theorem lsJ_end {n:Int}{d:List Int}{r:Int}{N j:Nat}{o x:List Int}(h:lsJ n d r (N - j) j o=some x)(hj:N≤j):o=x:=by
  rw[show N - j=0 by omega] at h
  simpa [lsJ] using h
theorem lsJ_no {n:Int}{d:List Int}{r:Int}{N j:Nat}{o x:List Int}(h:lsJ n d r (N - j) j o=some x)(hj:j<N)(hc:(o.getD j 0==0&&atI n d r j != 0)=false):lsJ n d r (N - (j+1)) (j+1) o=some x:=by
  rw[sub_one hj,lsJ,hc] at h
  simpa using h
theorem lsJ_yes {n:Int}{d:List Int}{r:Int}{N j:Nat}{o x:List Int}(h:lsJ n d r (N - j) j o=some x)(hj:j<N)(h1:o.getD j 0=0)(h2:atI n d r j≠0):atI n d j r≠0∧lsJ n d r (N - (j+1)) (j+1) (o.set j (lnV n d o r j))=some x:=by
  rw[sub_one hj,lsJ,if_pos (by rw[h1,bne_iff_ne.2 h2];rfl)] at h
  split at h
  · cases h
  · rename_i hz
    exact⟨fun e=>hz (by rw[e];rfl),h⟩
theorem liJ_end {n:Int}{d:List Int}{k N j:Nat}{o p:List Int}{x:List Int × List Int}(h:liJ n d k (N - j) j o p=some x)(hj:N≤j):(o,p)=x:=by
  rw[show N - j=0 by omega] at h
  simpa [liJ] using h
theorem liJ_no {n:Int}{d:List Int}{k N j:Nat}{o p:List Int}{x:List Int × List Int}(h:liJ n d k (N - j) j o p=some x)(hj:j<N)(hc:(o.getD j 0==0&&atI n d (p.getD k 0) j != 0)=false):liJ n d k (N - (j+1)) (j+1) o p=some x:=by
  rw[sub_one hj,liJ,hc] at h
  simpa using h
theorem liJ_yes {n:Int}{d:List Int}{k N j:Nat}{o p:List Int}{x:List Int × List Int}(h:liJ n d k (N - j) j o p=some x)(hj:j<N)(h1:o.getD j 0=0)(h2:atI n d (p.getD k 0) j≠0):atI n d j (p.getD k 0)≠0∧liJ n d k (N - (j+1)) (j+1) (o.set j (lnV n d o (p.getD k 0) j)) (p++[(j:Int)])=some x:=by
  rw[sub_one hj,liJ,if_pos (by rw[h1,bne_iff_ne.2 h2];rfl)] at h
  split at h
  · cases h
  · rename_i hz
    exact⟨fun e=>hz (by rw[e];rfl),h⟩
theorem and_no1 {a b:Bool}(h:a=false):(a&&b)=false:=by rw[h];rfl
theorem and_no2 {a:Bool}{x:Int}(h:x=0):(a&&(x != 0))=false:=by rw[h];simp
def lsM (o:List Int)(r a:Int):Int:=if o.getD r.toNat 0<a then o.getD r.toNat 0 else a
theorem lsM_yes {o:List Int}{r a:Int}(h:o.getD r.toNat 0<a):lsM o r a=o.getD r.toNat 0:=if_pos h
theorem lsM_no {o:List Int}{r a:Int}(h : ¬ o.getD r.toNat 0<a):lsM o r a=a:=if_neg h
def lsK (n:Int)(d rows:List Int):Nat→Nat→List Int→Int→Option (List Int × Int)
  | 0,_,o,a=>some (o,a)
  | m+1,k,o,a=>(lsJ n d (rows.getD k 0) n.toNat 0 o).bind fun o2=>lsK n d rows m (k+1) o2 (lsM o2 (rows.getD k 0) a)
theorem lsK_end {n:Int}{d rows:List Int}{N k:Nat}{o:List Int}{a:Int}{x:List Int × Int}(h:lsK n d rows (N - k) k o a=some x)(hj:N≤k):(o,a)=x:=by
  rw[show N - k=0 by omega] at h
  simpa [lsK] using h
theorem lsK_step {n:Int}{d rows:List Int}{N k:Nat}{o:List Int}{a:Int}{x:List Int × Int}(h:lsK n d rows (N - k) k o a=some x)(hj:k<N):∃ o2,lsJ n d (rows.getD k 0) (n.toNat - 0) 0 o=some o2∧lsK n d rows (N - (k+1)) (k+1) o2 (lsM o2 (rows.getD k 0) a)=some x:=by
  rw[sub_one hj,lsK] at h
  exact Option.bind_eq_some_iff.1 h
def liK (n:Int)(d:List Int):Nat→Nat→List Int→List Int→Option (List Int × List Int)
  | 0,_,_,_=>none
  | f+1,k,o,p=>if k<p.length then(liJ n d k n.toNat 0 o p).bind fun x=>liK n d f (k+1) x.1 x.2 else some (o,p)
theorem liK_end {n:Int}{d:List Int}{f k:Nat}{o p:List Int}{x:List Int × List Int}(h:liK n d f k o p=some x)(hk:p.length≤k):(o,p)=x:=by
  cases f with
  | zero=>cases h
  | succ f =>
    rw[liK,if_neg (by omega)] at h
    simpa using h
theorem liK_step {n:Int}{d:List Int}{f k:Nat}{o p:List Int}{x:List Int × List Int}(h:liK n d f k o p=some x)(hk:k<p.length):∃ g y q,f=g+1∧liJ n d k (n.toNat - 0) 0 o p=some (y,q)∧liK n d g (k+1) y q=some x:=by
  cases f with
  | zero=>cases h
  | succ f =>
    rw[liK,if_pos hk] at h
    obtain⟨y,h1,h2⟩:=Option.bind_eq_some_iff.1 h
    exact⟨f,y.1,y.2,rfl,h1,h2⟩
def liM (o p:List Int)(a:Int)(m:Nat):Int:=(List.range m).foldl (fun(a:Int) (t:Nat)=>min a (o.getD (p.getD t 0).toNat 0)) a
def dvL (p:List Int)(a:Int):Nat→Nat→List Int→Option (List Int)
  | 0,_,o=>some o
  | m+1,k,o=>if a==0 then none else dvL p a m (k+1) (o.set (p.getD k 0).toNat (IntKind.i64.wrap ((o.getD (p.getD k 0).toNat 0).tdiv a)))
theorem dvL_end {p:List Int}{a:Int}{N k:Nat}{o x:List Int}(h:dvL p a (N - k) k o=some x)(hj:N≤k):o=x:=by
  rw[show N - k=0 by omega] at h
  simpa [dvL] using h
theorem dvL_step {p:List Int}{a:Int}{N k:Nat}{o x:List Int}(h:dvL p a (N - k) k o=some x)(hj:k<N):a≠0∧dvL p a (N - (k+1)) (k+1) (o.set (p.getD k 0).toNat (IntKind.i64.wrap ((o.getD (p.getD k 0).toNat 0).tdiv a)))=some x:=by
  rw[sub_one hj,dvL] at h
  split at h
  · cases h
  · rename_i hz
    exact⟨fun e=>hz (by rw[e];rfl),h⟩
def lsO (n:Int)(d:List Int):Nat→Nat→List Int→Option (List Int)
  | 0,_,o=>some o
  | m+1,i,o=>if o.getD i 0 != 0 then lsO n d m (i+1) o else(lsK n d (partF n d i) (partF n d i).length 0 (o.set i 6) 6).bind fun x=>(dvL (partF n d i) x.2 (partF n d i).length 0 x.1).bind fun o3=>lsO n d m (i+1) o3
def liO (n:Int)(d:List Int):Nat→Nat→List Int→Option (List Int)
  | 0,_,o=>some o
  | m+1,i,o=>if o.getD i 0 != 0 then liO n d m (i+1) o else(liK n d 6 0 (o.set i 36) [(i:Int)]).bind fun x=>(dvL x.2 (liM x.1 x.2 (x.1.getD i 0) x.2.length) x.2.length 0 x.1).bind fun o3=>liO n d m (i+1) o3
theorem lsO_end {n:Int}{d:List Int}{N i:Nat}{o x:List Int}(h:lsO n d (N - i) i o=some x)(hj:N≤i):o=x:=by
  rw[show N - i=0 by omega] at h
  simpa [lsO] using h
theorem liO_end {n:Int}{d:List Int}{N i:Nat}{o x:List Int}(h:liO n d (N - i) i o=some x)(hj:N≤i):o=x:=by
  rw[show N - i=0 by omega] at h
  simpa [liO] using h
theorem lsO_no {n:Int}{d:List Int}{N i:Nat}{o x:List Int}(h:lsO n d (N - i) i o=some x)(hj:i<N)(hc:o.getD i 0≠0):lsO n d (N - (i+1)) (i+1) o=some x:=by
  rw[sub_one hj,lsO,if_pos (bne_iff_ne.2 hc)] at h
  exact h
theorem liO_no {n:Int}{d:List Int}{N i:Nat}{o x:List Int}(h:liO n d (N - i) i o=some x)(hj:i<N)(hc:o.getD i 0≠0):liO n d (N - (i+1)) (i+1) o=some x:=by
  rw[sub_one hj,liO,if_pos (bne_iff_ne.2 hc)] at h
  exact h
theorem lsO_yes {n:Int}{d:List Int}{N i:Nat}{o x:List Int}(h:lsO n d (N - i) i o=some x)(hj:i<N)(hc:o.getD i 0=0) :
    ∃ y a z,lsK n d (partF n d i) ((partF n d i).length - 0) 0 (o.set i 6) 6=some (y,a)∧dvL (partF n d i) a ((partF n d i).length - 0) 0 y=some z∧lsO n d (N - (i+1)) (i+1) z=some x:=by
  rw[sub_one hj,lsO,if_neg (by rw[hc];simp)] at h
  obtain⟨y,h1,h2⟩:=Option.bind_eq_some_iff.1 h
  obtain⟨z,h3,h4⟩:=Option.bind_eq_some_iff.1 h2
  exact⟨y.1,y.2,z,h1,h3,h4⟩
theorem liO_yes {n:Int}{d:List Int}{N i:Nat}{o x:List Int}(h:liO n d (N - i) i o=some x)(hj:i<N)(hc:o.getD i 0=0) :
    ∃ y q z,liK n d 6 0 (o.set i 36) [(i:Int)]=some (y,q)∧dvL q (liM y q (y.getD i 0) q.length) (q.length - 0) 0 y=some z∧liO n d (N - (i+1)) (i+1) z=some x:=by
  rw[sub_one hj,liO,if_neg (by rw[hc];simp)] at h
  obtain⟨y,h1,h2⟩:=Option.bind_eq_some_iff.1 h
  obtain⟨z,h3,h4⟩:=Option.bind_eq_some_iff.1 h2
  exact⟨y.1,y.2,z,h1,h3,h4⟩
def lenF (n:Int)(d:List Int):List Int:=(lsO n d n.toNat 0 (List.replicate n.toNat 0)).getD []
def chkL (n:Nat):Bool:=(candL n).all fun d=>(lsO n d n 0 (List.replicate n 0)==some (lenF n d))&&(liO n d n 0 (List.replicate n 0)==some (lenF n d))&&((lenF n d).length==n)
set_option maxRecDepth 100000 in
theorem chkL_all {m:Nat}:1≤m→m≤4→chkL m=true:=four (P:=fun m=>chkL m=true) (by decide +kernel) (by decide +kernel) (by decide +kernel) (by decide +kernel)
theorem len_ok {n:Int}{d:List Int}(h:(tyS n d).isSome=true):lsO n d (n.toNat - 0) 0 (List.replicate n.toNat 0)=some (lenF n d)∧liO n d (n.toNat - 0) 0 (List.replicate n.toNat 0)=some (lenF n d)∧(lenF n d).length=n.toNat:=by
  obtain⟨ks,hk⟩:=Option.isSome_iff_exists.1 h
  obtain⟨m,rfl,h1,h4,hd⟩:=tyS_cand hk
  have:=chkL_all h1 h4
  simp only[chkL,List.all_eq_true] at this
  have:=this d hd
  simp only[Bool.and_eq_true,beq_iff_eq] at this
  exact⟨this.1.1,this.1.2,this.2⟩
def inF (n:Int)(d x y:List Int):Int:=(List.range x.length).foldl (fun(s:Int) (i:Nat)=>IntKind.i64.wrap (s+IntKind.i64.wrap (IntKind.i64.wrap (x.getD i 0*(lenF n d).getD i 0)*(wtF n d y).getD i 0))) 0
end Go.Proofs.YtbmnnbglipkidaaGreatDoor
