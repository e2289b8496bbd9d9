/-
  Primes and residues: inside, IsPrime, residues, isZero (the program's) and l1In, IsPrime, l1Residues, l1IsZero (the reference's), each by its contract.
-/
import Derived.Test.YtbmnnbglipkidaaGreatDoorZ33
namespace Go.Proofs.YtbmnnbglipkidaaGreatDoor
set_option linter.unusedVariables false
set_option linter.unusedSimpArgs false
open Go.RowKit
theorem B7 (n lo hi:Int)(w:World):Calls Tryz.prog 84 #[.int .i64 n,.int .i64 lo,.int .i64 hi] w fun e w'=>e = .returned (.bool (BZ n lo hi))∧w=w':=by
  by_cases h:lo≤n
  · go_enter Tryz.func84,Tryz.ntmps84
    go_wp2
    go_ret
    exact⟨AL (by simp[BZ,h]),rfl⟩
  · go_enter Tryz.func84,Tryz.ntmps84
    have hf:decide (lo≤n)=false:=by simpa using h
    go_wp2
    go_ret
    exact⟨AL (by simp[BZ,hf]),rfl⟩
theorem EX (n lo hi:Int)(w:World):Calls Tryz.prog 77 #[.int .i64 n,.int .i64 lo,.int .i64 hi] w fun e w'=>e = .returned (.bool (BZ n lo hi))∧w=w':=by
  by_cases h:lo≤n
  · go_enter Tryz.func77,Tryz.ntmps77
    go_wp2
    go_ret
    exact⟨AL (by simp[BZ,h]),rfl⟩
  · go_enter Tryz.func77,Tryz.ntmps77
    have hf:decide (lo≤n)=false:=by simpa using h
    go_wp2
    go_ret
    exact⟨AL (by simp[BZ,hf]),rfl⟩
def AJ (n:Int):Bool:=BZ n 2 10007&&(List.range 101).all fun d=>decide ((d:Int)<2) || decide (n<(d:Int)*d) || !(n%d==0)
theorem AU {n:Int}(h:AJ n=true):2≤n∧n≤10007:=by
  simp only[AJ,Bool.and_eq_true] at h
  exact AX h.1
theorem H9 {n:Int}{d:Nat}(h2:2≤d)(hd:d≤100)(hle:(d:Int)*d≤n)(hz:n%d=0):AJ n=false:=by
  rw[Bool.eq_false_iff]
  intro h
  simp only[AJ,Bool.and_eq_true,List.all_eq_true] at h
  have:=h.2 d (by simp;omega)
  simp only[Bool.or_eq_true,decide_eq_true_eq,Bool.not_eq_true',beq_eq_false_iff_ne] at this
  rcases this with(h | h) | h
  · omega
  · omega
  · exact h hz
theorem Mm {n:Int}(h0:2≤n)(h1:n≤10007){d:Nat}(hgt:n<(d:Int)*d)(hno:∀ e:Nat,2≤e→e<d→n%e≠0):AJ n=true:=by
  simp only[AJ,Bool.and_eq_true,List.all_eq_true]
  refine⟨inB_of h0 h1,fun e he=>?_⟩
  simp only[Bool.or_eq_true,decide_eq_true_eq,Bool.not_eq_true',beq_eq_false_iff_ne]
  by_cases h2:2≤e
  · by_cases hd:e<d
    · exact .inr (hno e h2 hd)
    · have:(d:Int)*d≤(e:Int)*e:=Int.mul_le_mul (by omega) (by omega) (by omega) (by omega)
      exact .inl (.inr (by omega))
  · exact .inl (.inl (by omega))
theorem K5 {n:Int}(h:BZ n 2 10007=false):AJ n=false:=by simp[AJ,h]
theorem Ml {d:Nat}{n:Int}(h1:n≤10007)(hle:(d:Int)*d≤n):d≤100:=by
  by_cases h:d≤100
  · exact h
  · have:(101:Int)*101≤(d:Int)*d:=Int.mul_le_mul (by omega) (by omega) (by omega) (by omega)
    omega
theorem aj {d:Nat}(h:d≤101):0≤(d:Int)*d∧(d:Int)*d≤10201:=by
  have h1:(d:Int)*d≤101*101:=Int.mul_le_mul (by omega) (by omega) (by omega) (by omega)
  have h2:0≤(d:Int)*d:=Int.mul_nonneg (by omega) (by omega)
  omega
set_option maxHeartbeats 400000 in
theorem Cy (n:Int)(w:World):Calls Tryz.prog 61 #[.int .i64 n] w fun e w'=>e = .returned (.bool (AJ n))∧w=w':=by
  by_cases hin:BZ n 2 10007=true
  · obtain⟨h0,h1⟩:=AX hin
    go_enter Tryz.func61,Tryz.ntmps61
    go_wp2_with (go_at_call 84;go_must (refine(B7 _ _ _ _).mono ?_);rintro e w1 ⟨rfl,rfl⟩)
    go_loop [3] (fun i=>∃ d:Nat,2≤d∧d≤101∧i = .int .i64 d∧∀ e:Nat,2≤e→e<d→n%e≠0) (fun i=>102 - (intOf i).toNat)
    case atStart=>exact⟨2,by omega,by omega,rfl,fun e h h'=>by omega⟩
    case round =>
      obtain⟨d,hd2,hd,rfl,hno⟩:=hrel
      have HN:=hid hno;clear hno
      obtain⟨s0,s1⟩:=aj hd
      have hdi:(2:Int)≤d:=by omega
      by_cases hle:(d:Int)*d≤n
      · have hd100:=Ml h1 hle
        by_cases hz:n%d=0
        · have hzb:(n%(d:Int)==0)=true:=by simpa using hz
          have HZ:=hid hz;clear hz
          go_wp2
          go_ret
          exact⟨AL (H9 hd2 hd100 hle HZ.out).symm,rfl⟩
        · have hzb:(n%(d:Int)==0)=false:=by simpa using hz
          have HZ:=hid hz;clear hz
          go_wp2
          go_round
          case rel=>exact⟨d+1,by omega,by omega,by go_num,fun e h h'=>if he:e=d then he ▸ HZ.out else HN.out e h (by omega)⟩
          case measure=>simp[intOf];omega
      · go_wp2
        go_ret
        exact⟨AL (Mm h0 h1 (by omega) HN.out).symm,rfl⟩
  · have hin':BZ n 2 10007=false:=by simpa using hin
    have HP:=hid (K5 hin')
    have hor:=Mk hin'
    clear hor
    go_enter Tryz.func61,Tryz.ntmps61
    go_wp2_with (go_at_call 84;go_must (refine(B7 _ _ _ _).mono ?_);rintro e w1 ⟨rfl,rfl⟩)
    go_ret
    exact⟨AL HP.out.symm,rfl⟩
set_option maxHeartbeats 400000 in
theorem Bz (n:Int)(w:World):Calls Tryz.prog 59 #[.int .i64 n] w fun e w'=>e = .returned (.bool (AJ n))∧w=w':=by
  by_cases hin:BZ n 2 10007=true
  · obtain⟨h0,h1⟩:=AX hin
    go_enter Tryz.func59,Tryz.ntmps59
    go_wp2
    go_loop [3] (fun i=>∃ d:Nat,2≤d∧d≤101∧i = .int .i64 d∧∀ e:Nat,2≤e→e<d→n%e≠0) (fun i=>102 - (intOf i).toNat)
    case atStart=>exact⟨2,by omega,by omega,rfl,fun e h h'=>by omega⟩
    case round =>
      obtain⟨d,hd2,hd,rfl,hno⟩:=hrel
      have HN:=hid hno;clear hno
      obtain⟨s0,s1⟩:=aj hd
      have hdi:(2:Int)≤d:=by omega
      by_cases hle:(d:Int)*d≤n
      · have hd100:=Ml h1 hle
        by_cases hz:n%d=0
        · have hzb:(n%(d:Int)==0)=true:=by simpa using hz
          have HZ:=hid hz;clear hz
          go_wp2
          go_ret
          exact⟨AL (H9 hd2 hd100 hle HZ.out).symm,rfl⟩
        · have hzb:(n%(d:Int)==0)=false:=by simpa using hz
          have HZ:=hid hz;clear hz
          go_wp2
          go_round
          case rel=>exact⟨d+1,by omega,by omega,by go_num,fun e h h'=>if he:e=d then he ▸ HZ.out else HN.out e h (by omega)⟩
          case measure=>simp[intOf];omega
      · go_wp2
        go_ret
        exact⟨AL (Mm h0 h1 (by omega) HN.out).symm,rfl⟩
  · have hin':BZ n 2 10007=false:=by simpa using hin
    have HP:=hid (K5 hin')
    have hor:=Mk hin'
    rcases hor with h | h
    · go_enter Tryz.func59,Tryz.ntmps59
      go_wp2
      go_ret
      exact⟨AL HP.out.symm,rfl⟩
    · have h2 : ¬ n<2:=by omega
      go_enter Tryz.func59,Tryz.ntmps59
      go_wp2
      go_ret
      exact⟨AL HP.out.symm,rfl⟩
def GT (xs:List Int)(p:Int):Bool:=xs.all fun n=>BZ n 0 (p - 1)
def Dd (xs:List Int):Bool:=xs.all fun n=>n==0
def Oq (f:Int→Bool)(xs:List Int):Int:=if (xs.findIdx f)<xs.length then(xs.findIdx f:Int) else -1
theorem Tn {f:Int→Bool}{xs:List Int}{k:Nat}(hk:k<xs.length)(hno:∀ j,j<k→f (xs.getD j 0)=false)(h:f (xs.getD k 0)=true):Oq f xs=k:=by
  have:xs.findIdx f=k:=by
    rw[List.findIdx_eq hk]
    refine⟨by simpa [List.getD,hk] using h,fun j hj=>?_⟩
    have:=hno j hj
    simpa [List.getD,show j<xs.length by omega] using this
  rw[Oq,this,if_pos hk]
theorem So {f:Int→Bool}{xs:List Int}(hno:∀ j,j<xs.length→f (xs.getD j 0)=false):Oq f xs = -1:=by
  have:xs.findIdx f=xs.length:=by
    rw[List.findIdx_eq_length]
    intro x hx
    obtain⟨j,hj,rfl⟩:=List.getElem_of_mem hx
    have:=hno j hj
    simpa [List.getD,hj] using this
  rw[Oq,this,if_neg (by omega)]
theorem U4 {f:Int→Bool}{xs:List Int}:(decide (0≤Oq f xs))=xs.any f:=by
  by_cases h:xs.findIdx f<xs.length
  · rw[Oq,if_pos h]
    have:xs.any f=true:=by
      rw[List.any_eq_true]
      exact⟨xs[xs.findIdx f],List.getElem_mem h,List.findIdx_getElem (w:=h)⟩
    simp[this]
  · have h2:xs.findIdx f=xs.length:=by have:=List.findIdx_le_length (p:=f) (xs:=xs);omega
    rw[Oq,if_neg h]
    rw[List.findIdx_eq_length] at h2
    have:xs.any f=false:=by
      rw[List.any_eq_false]
      intro x hx
      simp[h2 x hx]
    simp[this]
-- IndexFunc at whole numbers, with a function value that answers f and turns nothing (but draws).
set_option maxRecDepth 100000 in
set_option maxHeartbeats 400000 in
theorem Ld (v:Value)(xs:List Int)(F:Nat)(cap:Array Value)(f:Int→Bool)(w:World)(h:Ints w v xs)(hcf:∀ args W,(callFunc F args).run Tryz.prog W = .ok (.enter F args) W)
    (hf:∀ (x:Int) (m:Nat),Calls Tryz.prog F (#[.int .i64 x]++cap) (w.drewN m) fun e w'=>e = .returned (.bool (f x))∧∃ n,w'=(w.drewN m).drewN n) :
    Calls Tryz.prog 162 #[v,.func (.func F) #[] cap] w fun e w'=>e = .returned (.int .i64 (Oq f xs))∧∃ n,w'=w.drewN n:=by
  obtain⟨ad,hl,hi,hc,_⟩:=h.facts Xf
  have hs:=Sl.size_le h
  unfold maxLen at hs
  obtain⟨n,hn⟩:∃ n,n=xs.length:=⟨_,rfl⟩
  rw[← hn] at hl hi hc hs
  have H1:=hid hn;clear hn
  have HF:=hid hf;clear hf
  go_enter Tryz.func162,Tryz.ntmps162
  go_wp2
  go_loopw [8] (fun i wr=>∃ k m:Nat,k≤n∧i = .int .i64 k∧(∀ j,j<k→f (xs.getD j 0)=false)∧wr=w.drewN m) (fun i _=>n - (intOf i).toNat)
  case atStart=>exact⟨0,0,by omega,rfl,(fun j h=>by omega),rfl⟩
  case round =>
    obtain⟨k,m,hk,rfl,hno,rfl⟩:=hrel
    have HN:=hid hno;clear hno
    by_cases hlt:k<n
    · have hhit:=hid (fun h=>Tn (f:=f) (by have:=H1.out;omega) HN.out h)
      have hnext:=hid (fun(h:f (xs.getD k 0)=false) j (hj:j<k+1)=>(if e:j=k then(by rw[e];exact h) else HN.out j (by omega):f (xs.getD j 0)=false))
      have g:=hc k hlt
      generalize xs.getD k 0=X at g hhit hnext
      clear hc
      go_wp2_with fail
      refine(HF.out X m).mono ?_;rintro e w1 ⟨rfl,q,rfl⟩
      go_wp2
      · go_ret
        exact⟨Ep (hhit.out (by assumption)).symm,_,rfl⟩
      · go_roundw
        case rel=>exact⟨k+1,_,by omega,by go_num,hnext.out (by assumption),rfl⟩
        case measure=>simp[intOf];omega
    · have hkn:=hid (show k=n by omega)
      go_wp2
      go_ret
      exact⟨Ep (So (fun j hj=>HN.out j (by have:=hkn.out;have:=H1.out;omega))).symm,_,rfl⟩
theorem Ed (v:Value)(xs:List Int)(F:Nat)(cap:Array Value)(f:Int→Bool)(w:World)(h:Ints w v xs)(hcf:∀ args W,(callFunc F args).run Tryz.prog W = .ok (.enter F args) W)
    (hf:∀ (x:Int) (m:Nat),Calls Tryz.prog F (#[.int .i64 x]++cap) (w.drewN m) fun e w'=>e = .returned (.bool (f x))∧∃ n,w'=(w.drewN m).drewN n) :
    Calls Tryz.prog 118 #[v,.func (.func F) #[] cap] w fun e w'=>e = .returned (.bool (xs.any f))∧∃ n,w'=w.drewN n:=by
  have HF:=hid hf;clear hf
  go_enter Tryz.func118,Tryz.ntmps118
  go_wp2_with (go_at_call 162;go_must (refine(Ld _ _ _ _ _ _ h hcf HF.out).mono ?_);rintro e w1 ⟨rfl,q,rfl⟩)
  go_ret
  exact⟨AL U4,_,rfl⟩
theorem ZI (args:Array Value)(W:World):(callFunc 200 args).run Tryz.prog W = .ok (.enter 200 args) W:=by kernel_rfl
theorem Ub (args:Array Value)(W:World):(callFunc 129 args).run Tryz.prog W = .ok (.enter 129 args) W:=by kernel_rfl
theorem La (x p:Int)(a:Addr)(w:World)(hc:w.cell? a=some (.int .i64 p))(h0 : -1000000≤p)(h1:p≤1000000) :
    Calls Tryz.prog 200 #[.int .i64 x,.pointer (some a)] w fun e w'=>e = .returned (.bool (!BZ x 0 (p - 1)))∧w=w':=by
  go_enter Tryz.func200,Tryz.ntmps200
  go_wp2_with (go_at_call 84;go_must (refine(B7 _ _ _ _).mono ?_);rintro e w1 ⟨rfl,rfl⟩)
  go_ret
  exact⟨rfl,rfl⟩
theorem OK (x:Int)(w:World):Calls Tryz.prog 129 #[.int .i64 x] w fun e w'=>e = .returned (.bool (x != 0))∧w=w':=by
  go_enter Tryz.func129,Tryz.ntmps129
  go_wp2
  go_ret
  exact⟨rfl,rfl⟩
theorem Hi (xs:List Int)(f:Int→Bool):(!xs.any fun x => !f x)=xs.all f:=by
  induction xs with
  | nil=>rfl
  | cons x xs ih=>simp only[List.any_cons,List.all_cons,Bool.not_or,ih,Bool.not_not]
set_option maxHeartbeats 400000 in
theorem CA (v:Value)(xs:List Int)(p:Int)(w:World)(h:Ints w v xs)(h0 : -1000000≤p)(h1:p≤1000000) :
    Calls Tryz.prog 176 #[v,.int .i64 p] w fun e w'=>e = .returned (.bool (GT xs p))∧Below w.heap.size w w':=by
  have hb:=Below.allocs (w:=w) (.cells #[.int .i64 p] 3)
  have h':=Sl.below h hb
  go_enter Tryz.func176,Tryz.ntmps176
  go_wp2_with fail
  refine(Ed _ xs 200 _ (fun x => !BZ x 0 (p - 1)) _ h' ZI (fun x m=>?_)).mono ?_
  · exact(La x p ⟨w.heap.size,0,none⟩ _ (by simp) h0 h1).mono fun e w' ⟨he,hw⟩=>⟨he,0,hw ▸ rfl⟩
  · rintro e w1 ⟨rfl,q,rfl⟩
    go_wp2
    go_ret
    exact⟨AL (Hi xs _),below_drewN hb _⟩
set_option maxHeartbeats 400000 in
theorem PF (v:Value)(xs:List Int)(w:World)(h:Ints w v xs) :
    Calls Tryz.prog 67 #[v] w fun e w'=>e = .returned (.bool (Dd xs))∧∃ n,w'=w.drewN n:=by
  go_enter Tryz.func67,Tryz.ntmps67
  go_wp2_with fail
  refine(Ed _ xs 129 #[] (fun x => !(x==0)) _ h Ub (fun x m=>?_)).mono ?_
  · exact(OK x _).mono fun e w' ⟨he,hw⟩=>⟨he,0,hw ▸ rfl⟩
  · rintro e w1 ⟨rfl,q,rfl⟩
    go_wp2
    go_ret
    exact⟨AL (Hi xs _),_,rfl⟩
theorem S0 {xs:List Int}{p:Int}{k:Nat}(h:∀ j,j<k→BZ (xs.getD j 0) 0 (p - 1)=true)(hk:k=xs.length):GT xs p=true:=by
  simp only[GT,List.all_eq_true]
  intro x hx
  obtain⟨j,hj,rfl⟩:=List.getElem_of_mem hx
  have:=h j (by omega)
  simpa [List.getD,hj] using this
theorem Y1 {xs:List Int}{p:Int}{k:Nat}(hk:k<xs.length)(h:BZ (xs.getD k 0) 0 (p - 1)=false):GT xs p=false:=by
  rw[Bool.eq_false_iff]
  intro hall
  simp only[GT,List.all_eq_true] at hall
  have:=hall (xs.getD k 0) (by simp[List.getD,hk])
  rw[h] at this
  cases this
theorem Vi {xs:List Int}{p:Int}(h:GT xs p=true){x:Int}(hx:x∈xs):0≤x∧x<p:=by
  simp only[GT,List.all_eq_true] at h
  have:=AX (h x hx)
  omega
set_option maxHeartbeats 400000 in
theorem Cf (v:Value)(xs:List Int)(p:Int)(w:World)(h:Ints w v xs) :
    Calls Tryz.prog 198 #[v,.int .i64 p] w fun e w'=>e = .returned (.bool (GT xs p))∧w=w':=by
  obtain⟨ad,hl,hi,hc,_⟩:=h.facts Xf
  have hs:=Sl.size_le h
  unfold maxLen at hs
  obtain⟨n,hn⟩:∃ n,n=xs.length:=⟨_,rfl⟩
  rw[← hn] at hl hi hc hs
  have H1:=hid hn;clear hn
  go_enter Tryz.func198,Tryz.ntmps198
  go_wp2
  go_loop [5] (fun i=>∃ k:Nat,k≤n∧i = .int .i64 k∧(∀ j,j<k→BZ (xs.getD j 0) 0 (p - 1)=true)) (fun i=>n - (intOf i).toNat)
  case atStart=>exact⟨0,by omega,rfl,fun j h=>by omega⟩
  case round =>
    obtain⟨k,hk,rfl,hno⟩:=hrel
    have HN:=hid hno;clear hno
    by_cases hlt:k<n
    · have hnext:=hid (fun(h:BZ (xs.getD k 0) 0 (p - 1)=true) j (hj:j<k+1)=>(if e:j=k then(by rw[e];exact h) else HN.out j (by omega):BZ (xs.getD j 0) 0 (p - 1)=true))
      have hhit:=hid (fun h=>Y1 (xs:=xs) (p:=p) (k:=k) (by have:=H1.out;omega) h)
      have g:=hc k hlt
      generalize xs.getD k 0=X at g hhit hnext
      clear hc
      by_cases hX:X<0
      · go_wp2
        go_ret
        exact⟨AL (hhit.out (QN (by omega))).symm,rfl⟩
      · have hX':decide (X<0)=false:=by simpa using hX
        by_cases hp:X<p
        · go_wp2
          go_round
          case rel=>exact⟨k+1,by omega,by go_num,hnext.out (inB_of (by omega) (by omega))⟩
          case measure=>simp[intOf];omega
        · go_wp2
          go_ret
          exact⟨AL (hhit.out (QN (by omega))).symm,rfl⟩
    · have hkn:=hid (show k=n by omega)
      go_wp2
      go_ret
      exact⟨AL (S0 HN.out (by have:=hkn.out;have:=H1.out;omega)).symm,rfl⟩
end Go.Proofs.YtbmnnbglipkidaaGreatDoor
