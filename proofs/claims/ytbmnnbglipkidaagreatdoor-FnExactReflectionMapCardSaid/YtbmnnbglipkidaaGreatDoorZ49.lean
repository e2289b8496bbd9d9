/-
  AddMatrices (the program's), by its contract.
-/
import Derived.Test.YtbmnnbglipkidaaGreatDoorPlus
namespace Go.Proofs.YtbmnnbglipkidaaGreatDoor
set_option linter.unusedVariables false
set_option linter.unusedSimpArgs false
open Go.RowKit
def gj:Mat:=⟨0,0,0,[]⟩
theorem MatOk.small {m:Mat}(h:MatOk m):E2 m:=⟨by have:=h.p0;omega,by have:=h.p1;omega,by have:=h.le;omega,fun x hx=>by have:=h.res x hx;have:=h.p1;omega⟩
structure W2F (w W:World)(a:Mat)(da:Value)(b:Mat)(db:Value):Prop where
  size:W.heap.size=w.heap.size+3
  below:Below w.heap.size w W
  a:Bx W w.heap.size 51 [.int .i64 a.p,.int .i64 a.r,.int .i64 a.c,da]
  b:Bx W (w.heap.size+1) 51 [.int .i64 b.p,.int .i64 b.r,.int .i64 b.c,db]
  r:Bx W (w.heap.size+1+1) 51 [.int .i64 0,.int .i64 0,.int .i64 0,.slice none 0 0]
theorem W2F.mk' (w:World)(a:Mat)(da:Value)(b:Mat)(db:Value) :
    ∃ W,W=((w.alloc (.cells #[.int .i64 a.p,.int .i64 a.r,.int .i64 a.c,da] 51)).alloc (.cells #[.int .i64 b.p,.int .i64 b.r,.int .i64 b.c,db] 51)).alloc (.cells #[.int .i64 0,.int .i64 0,.int .i64 0,.slice none 0 0] 51)∧W2F w W a da b db:=by
  refine⟨_,rfl,by simp,(((Below.refl w.heap.size w).alloc (Nat.le_refl _) _).alloc (by simp) _).alloc (by simp;omega) _,((Bx.push w _ _).alloc _).alloc _,(Bx.push' _ _ _ _ (by simp)).alloc _,Bx.push' _ _ _ _ (by simp)⟩
set_option maxHeartbeats 1000000 in
theorem KS (v:Value)(m:Mat)(w:World)(h:EP w v m)(hs:m.d.length≤1073741824) :
    Calls Tryz.prog 172 #[v] w fun e w'=>∃ r,e = .returned r∧FQ w' w.heap.size r m∧Below w.heap.size w w':=by
  obtain⟨dv,rfl,hd⟩:=h
  obtain⟨aoa,capa,rfl⟩:=Sl.form hd
  obtain⟨W,hW⟩:∃ W,W=(w.alloc (.cells #[.int .i64 m.p,.int .i64 m.r,.int .i64 m.c,.slice aoa m.d.length capa] 51)).alloc (.cells #[.int .i64 0,.int .i64 0,.int .i64 0,.slice none 0 0] 51):=⟨_,rfl⟩
  have hWs:W.heap.size=w.heap.size+2:=by rw[hW];simp
  have hb0:Below w.heap.size w W:=by rw[hW];exact((Below.refl w.heap.size w).alloc (Nat.le_refl _) _).alloc (by simp) _
  have x0:Bx W w.heap.size 51 [.int .i64 m.p,.int .i64 m.r,.int .i64 m.c,.slice aoa m.d.length capa]:=by rw[hW];exact(Bx.push w _ _).alloc _
  have x1:Bx W (w.heap.size+1) 51 [.int .i64 0,.int .i64 0,.int .i64 0,.slice none 0 0]:=by rw[hW];exact Bx.push' _ _ _ _ (by simp)
  have HW:=hid hW;clear hW
  have hda2:∀ w',Below (w.heap.size+1) W w'→Ints w' (.slice aoa m.d.length capa) m.d:=fun w' h=>Sl.below hd (hb0.trans (h.mono (by omega)))
  have a0:∀ w',Below (w.heap.size+1) W w'→w'.cell? ⟨w.heap.size,0,none⟩=some (.int .i64 m.p):=fun w' h=>(x0.below h (by omega)).cells4.1
  have a1:∀ w',Below (w.heap.size+1) W w'→w'.cell? ⟨w.heap.size,1,none⟩=some (.int .i64 m.r):=fun w' h=>(x0.below h (by omega)).cells4.2.1
  have a2:∀ w',Below (w.heap.size+1) W w'→w'.cell? ⟨w.heap.size,2,none⟩=some (.int .i64 m.c):=fun w' h=>(x0.below h (by omega)).cells4.2.2.1
  have a3:∀ w',Below (w.heap.size+1) W w'→w'.cell? ⟨w.heap.size,3,none⟩=some (.slice aoa m.d.length capa):=fun w' h=>(x0.below h (by omega)).cells4.2.2.2
  have r0:∀ w',Below W.heap.size W w'→w'.cell? ⟨w.heap.size+1,0,none⟩=some (.int .i64 0):=fun w' h=>(x1.below h x1.lt).cells4.1
  have r1:∀ w',Below W.heap.size W w'→w'.cell? ⟨w.heap.size+1,1,none⟩=some (.int .i64 0):=fun w' h=>(x1.below h x1.lt).cells4.2.1
  have r2:∀ w',Below W.heap.size W w'→w'.cell? ⟨w.heap.size+1,2,none⟩=some (.int .i64 0):=fun w' h=>(x1.below h x1.lt).cells4.2.2.1
  have r3:∀ w',Below W.heap.size W w'→w'.cell? ⟨w.heap.size+1,3,none⟩=some (.slice none 0 0):=fun w' h=>(x1.below h x1.lt).cells4.2.2.2
  have rf:∀ w' o,Below W.heap.size W w'→w'.frozen? ⟨w.heap.size+1,o,none⟩=false:=fun w' o h=>(x1.below h x1.lt).free o
  have HWs:=hid hWs
  clear hWs x0 x1
  go_enter Tryz.func172,Tryz.ntmps172
  go_upto_region 1 with fail
  rw[← HW.out]
  go_region_held3 (fun w'=>Below (w.heap.size+1) W w')
    (first | assumption | exact(Below.refl _ _).drew | exact Below.setCell (Below.setCell (Below.setCell (Below.setCell (by assumption) (by simp) _) (by simp) _) (by simp) _) (by simp) _)
    ((go_at_call 108;refine(OX _ _ _ (hda2 _ (by assumption)) hs).mono ?_;rintro e w1 ⟨r,rfl,hown,hbz⟩;obtain⟨aor,capr,rfl⟩:=hown.form;have hnew:Below W.heap.size W w1:=Below.trans (Below.refl _ _).drew hbz;have hnew2:Below (w.heap.size+1) W w1:=hnew.mono (by have:=HWs.out;omega)))
  go_wp2_with fail
  refine bodyPost_ret (v := .agg #[.int .i64 m.p,.int .i64 m.r,.int .i64 m.c,.slice aor m.d.length capr]) (by simp[results,Tryz.results172,go_sem,r0 _ hnew,r1 _ hnew,r2 _ hnew,r3 _ hnew]) rfl ?_
  have hsz:=HWs.out
  refine⟨_,rfl,⟨_,rfl,?_⟩,Below.setCell (Below.setCell (Below.setCell (Below.setCell (hb0.trans (hnew.mono (by omega))) (by simp) _) (by simp) _) (by simp) _) (by simp) _⟩
  exact((((hown.setB (by simp;omega)).setB (by simp;omega)).setB (by simp;omega)).setB (by simp;omega)).mono (by simp;omega)
set_option maxRecDepth 100000 in
set_option maxHeartbeats 1000000 in
theorem SA (va vb:Value)(a b:Mat)(w:World)(ha:EP w va a)(hb:EP w vb b)(sa:E2 a)(sb:E2 b)(hl:b.d.length=a.d.length) :
    Calls Tryz.prog 136 #[va,vb] w fun e w'=>∃ r,e = .returned r∧FQ w' w.heap.size r (Gl a 1 b)∧Below w.heap.size w w':=by
  obtain⟨da,rfl,hda⟩:=ha
  obtain⟨db,rfl,hdb⟩:=hb
  obtain⟨aoa,capa,rfl⟩:=Sl.form hda
  obtain⟨aob,capb,rfl⟩:=Sl.form hdb
  obtain⟨p0,p1,la,ea⟩:=sa
  obtain⟨_,_,lb,eb⟩:=sb
  obtain⟨W,hW,F⟩:=W2F.mk' w a (.slice aoa a.d.length capa) b (.slice aob b.d.length capb)
  have HW:=hid hW;clear hW
  have hA:∀ w',Below W.heap.size W w'→EP w' (.agg #[.int .i64 a.p,.int .i64 a.r,.int .i64 a.c,.slice aoa a.d.length capa]) a:=fun w' h=>⟨_,rfl,Sl.below hda (F.below.trans (h.mono F.below.size))⟩
  have a0:∀ w',Below W.heap.size W w'→w'.cell? ⟨w.heap.size,0,none⟩=some (.int .i64 a.p):=fun w' h=>(F.a.below h F.a.lt).cells4.1
  have a1:∀ w',Below W.heap.size W w'→w'.cell? ⟨w.heap.size,1,none⟩=some (.int .i64 a.r):=fun w' h=>(F.a.below h F.a.lt).cells4.2.1
  have a2:∀ w',Below W.heap.size W w'→w'.cell? ⟨w.heap.size,2,none⟩=some (.int .i64 a.c):=fun w' h=>(F.a.below h F.a.lt).cells4.2.2.1
  have a3:∀ w',Below W.heap.size W w'→w'.cell? ⟨w.heap.size,3,none⟩=some (.slice aoa a.d.length capa):=fun w' h=>(F.a.below h F.a.lt).cells4.2.2.2
  have b0:∀ w',Below W.heap.size W w'→w'.cell? ⟨w.heap.size+1,0,none⟩=some (.int .i64 b.p):=fun w' h=>(F.b.below h F.b.lt).cells4.1
  have b1:∀ w',Below W.heap.size W w'→w'.cell? ⟨w.heap.size+1,1,none⟩=some (.int .i64 b.r):=fun w' h=>(F.b.below h F.b.lt).cells4.2.1
  have b2:∀ w',Below W.heap.size W w'→w'.cell? ⟨w.heap.size+1,2,none⟩=some (.int .i64 b.c):=fun w' h=>(F.b.below h F.b.lt).cells4.2.2.1
  have b3:∀ w',Below W.heap.size W w'→w'.cell? ⟨w.heap.size+1,3,none⟩=some (.slice aob b.d.length capb):=fun w' h=>(F.b.below h F.b.lt).cells4.2.2.2
  have r0:∀ w',Below W.heap.size W w'→w'.cell? ⟨w.heap.size+1+1,0,none⟩=some (.int .i64 0):=fun w' h=>(F.r.below h F.r.lt).cells4.1
  have r1:∀ w',Below W.heap.size W w'→w'.cell? ⟨w.heap.size+1+1,1,none⟩=some (.int .i64 0):=fun w' h=>(F.r.below h F.r.lt).cells4.2.1
  have r2:∀ w',Below W.heap.size W w'→w'.cell? ⟨w.heap.size+1+1,2,none⟩=some (.int .i64 0):=fun w' h=>(F.r.below h F.r.lt).cells4.2.2.1
  have r3:∀ w',Below W.heap.size W w'→w'.cell? ⟨w.heap.size+1+1,3,none⟩=some (.slice none 0 0):=fun w' h=>(F.r.below h F.r.lt).cells4.2.2.2
  have rf:∀ w' o,Below W.heap.size W w'→w'.frozen? ⟨w.heap.size+1+1,o,none⟩=false:=fun w' o h=>(F.r.below h F.r.lt).free o
  have HE:=hid (And.intro ea eb)
  have HL:=hid hl
  clear ea eb hl
  have hbc:Below W.heap.size W W:=Below.refl _ _
  go_enter Tryz.func136,Tryz.ntmps136
  go_upto_region 1 with fail
  rw[← HW.out]
  go_wp2_with fail
  refine(KS _ a _ (hA _ hbc) la).mono ?_;rintro e w1 ⟨r,rfl,hr,hb1⟩
  obtain⟨dv,rfl,hO⟩:=hr
  obtain⟨aor,capr,rfl⟩:=hO.form
  have HO:=hid hO;clear hO
  have HA:=hid hA;clear hA
  go_wp2_with fail
  have hs1:=hb1.size
  have hFs:=F.size
  have xg:Bx (w1.alloc (.cells #[.int .i64 a.p,.int .i64 a.r,.int .i64 a.c,.slice aor a.d.length capr] 51)) w1.heap.size 51 [.int .i64 a.p,.int .i64 a.r,.int .i64 a.c,.slice aor a.d.length capr]:=Bx.push _ _ _
  have hO1:=Ch.below HO.out (Below.allocs (.cells #[.int .i64 a.p,.int .i64 a.r,.int .i64 a.c,.slice aor a.d.length capr] 51))
  have hne:=HO.out.ne (g:=w1.heap.size) (.inr (Nat.le_refl _))
  have hb2:Below W.heap.size W (w1.alloc (.cells #[.int .i64 a.p,.int .i64 a.r,.int .i64 a.c,.slice aor a.d.length capr] 51)):=hb1.alloc hs1 _
  have X:=hid (And.intro xg (And.intro hO1 (And.intro hne hb2)))
  obtain⟨g,hg⟩:∃ g,g=w1.heap.size:=⟨_,rfl⟩
  obtain⟨n,hn⟩:∃ n,n=a.d.length:=⟨_,rfl⟩
  have hgW:W.heap.size≤g:=by omega
  rw[← hg,← hn] at X ⊢
  rw[← hn] at a3 la
  have HN:=hid (And.intro hg (And.intro hn HL.out))
  obtain⟨adb,hlb,hib,hcb,hbb⟩:=hdb.facts Xf
  have HI:=hid (And.intro hib (And.intro hcb hbb))
  have hbl:b.d.length=n:=HN.out.2.2.trans HN.out.2.1.symm
  rw[hbl] at lb hlb hib hcb hbb b3
  have hdb':∀ w',Below W.heap.size W w'→∀ k,k<n→w'.cell? (adb k)=some (.int .i64 (b.d.getD k 0)):=fun w' h k hk=>((F.below.trans (h.mono F.below.size)).cell (hbb k hk)).trans (hcb k hk)
  have HFs:=hid hFs
  clear HO HA hO1 hne hb2 hs1 xg hbl hcb hg hn HL hbb hFs
  go_loopw [6] (fun i wr=>∃ k:Nat,k≤n∧i = .int .i64 k∧Ch wr W.heap.size 3 1 (.slice aor n capr) n ((addF 1 a.p a.d (b.d.take k)).map (Value.int .i64))∧Bx wr g 51 [.int .i64 a.p,.int .i64 a.r,.int .i64 a.c,.slice aor n capr]∧Below W.heap.size W wr) (fun i _=>n - (intOf i).toNat)
  case atStart =>
    refine⟨0,by omega,rfl,?_,X.out.1,X.out.2.2.2⟩
    have:=X.out.2.1
    simpa [CZ] using this
  case round =>
    obtain⟨k,hk,rfl,hO,hX,hB⟩:=hrel
    obtain⟨x0,x1,x2,x3⟩:=hX.cells4
    by_cases hlt:k<n
    · obtain⟨ad',hi',hc',hf',hb',hst⟩:=hO.store Xf (by omega)
      have hstep:=Fs 1 a.p a.d b.d k (by have:=HN.out;omega) (by have:=HN.out;omega)
      have q0:=hc' k hlt
      rw[Gc _ _ (by rw[BF];have:=HN.out;omega),hstep.1] at q0
      have q1:=hf' k hlt
      have q2:=hst k (.int .i64 ((a.d.getD k 0+1*b.d.getD k 0)%a.p)) hlt
      rw[← List.map_set,hstep.2,Int.one_mul] at q2
      have gb:=hdb' wr hB k hlt
      have hX1:=HE.out.1 (a.d.getD k 0) (by simp[List.getD,show k<a.d.length by have:=HN.out;omega])
      have hY1:=HE.out.2 (b.d.getD k 0) (by simp[List.getD,show k<b.d.length by have:=HN.out;omega])
      have Q:=hid (And.intro q2 (And.intro hX (And.intro hB hb')))
      clear hstep hst hc' hf' q2 hX hO hb' hdb'
      generalize a.d.getD k 0=X' at q0 Q hX1
      generalize b.d.getD k 0=Y' at gb Q hY1
      obtain⟨m0,m1⟩:=hX1
      obtain⟨m2,m3⟩:=hY1
      have w1e:IntKind.i64.wrap (X'+Y')=X'+Y':=IntWalk.i64_in _ (by omega)
      have w2e:(X'+Y').tmod a.p=(X'+Y')%a.p:=Int.tmod_eq_emod_of_nonneg (by omega)
      have r0e:0≤(X'+Y')%a.p:=Int.emod_nonneg _ (by omega)
      have r1e:(X'+Y')%a.p<a.p:=Int.emod_lt_of_pos _ (by omega)
      have w3e:IntKind.i64.wrap ((X'+Y')%a.p)=(X'+Y')%a.p:=IntWalk.i64_in _ (by omega)
      have pne:(a.p==0)=false:=by rw[beq_eq_false_iff_ne];omega
      have pne':a.p≠0:=by omega
      go_wp2
      refine wp_region_still_tail 18 (by kernel_rfl) (by kernel_rfl) ?_
      simp only[List.take_succ_cons,List.take_zero,List.drop_succ_cons,List.drop_zero]
      change wpStill _ _ (World.drew wr) _ _ _
      repeat still_step
      refine wpStill_nil ?_
      change wpList _ _ _ _ _ wr.drew
      go_wp2
      go_roundw
      case rel =>
        refine⟨k+1,by omega,by go_num,Q.out.1.1,?_,(Q.out.2.2.1.setCell (Q.out.2.2.2 k) _).drew⟩
        refine Bx.grown Q.out.2.1 (row:=(Value.slice aor n capr).ownBlock) ?_ X.out.2.2.1
        exact⟨Q.out.1.2.os,Q.out.1.2.tape,Q.out.1.2.output,Q.out.1.2.size,Q.out.1.2.block⟩
      case measure=>simp[intOf];omega
    · have hkn:=hid (show k=n by omega)
      have Q:=hid (And.intro hO hB)
      clear hO
      go_wp2
      refine bodyPost_ret (v := .agg #[.int .i64 a.p,.int .i64 a.r,.int .i64 a.c,.slice aor n capr]) (by simp[results,Tryz.results136,go_sem,r0 _ hB,r1 _ hB,r2 _ hB,r3 _ hB]) rfl ?_
      have hO':=Q.out.1
      rw[hkn.out,List.take_of_length_le (by have:=HN.out;omega)] at hO'
      have hlen:(Gl a 1 b).d.length=n:=by simp[Gl,BF,HN.out.2.1]
      have hFs:=F.size
      refine⟨_,rfl,⟨_,rfl,?_⟩,Below.setCell (Below.setCell (Below.setCell (Below.setCell (F.below.trans (hB.mono (by omega))) (by simp;omega) _) (by simp;omega) _) (by simp;omega) _) (by simp;omega) _⟩
      have hI:Du wr W.heap.size 3 (.slice aor n capr) (Gl a 1 b).d:=by unfold Du;rw[hlen];exact hO'
      exact((((hI.setB (by simp;omega)).setB (by simp;omega)).setB (by simp;omega)).setB (by simp;omega)).mono (by omega)
theorem Spec.ownM {P:Program}{f:FuncId}{vs:List Value}{W:World}{own:List Asn}{m:Mat}(h:∀ w,St W w own→Calls P f vs.toArray w fun en w'=>∃ r,en = .returned r∧FQ w' w.heap.size r m∧Below w.heap.size w w') :
    Spec P f vs W own fun u ow=>∃ r0:Value,u = .agg #[.int .i64 m.p,.int .i64 m.r,.int .i64 m.c,r0]∧Ab r0∧ow=ints 3 r0 m.d::own :=
  fun w hs=>(h w hs).mono fun en w' ⟨r,he,⟨dv,hr,hO⟩,hb⟩=>⟨r,_,he,⟨dv,hr,by obtain⟨ao,cap,hv⟩:=hO.form;exact⟨ao,_,cap,hv⟩,rfl⟩,C0 hs hO hb⟩
def L5 (p r c:Int):Mat:=⟨p,r,c,List.replicate (r*c).toNat 0⟩
def AE (a:Mat)(k:Int):Mat:=if AY a then Gl (L5 a.p a.r a.c) (k%a.p) a else gj
theorem L4 {a:Mat}(h:MatOk a):(L5 a.p a.r a.c).d.length=a.d.length:=by
  have:=h.len
  simp only[L5,List.length_replicate]
  omega
theorem NT {a:Mat}(h:MatOk a):E2 (L5 a.p a.r a.c):=by
  have h0:=h.small
  refine⟨h0.1,h0.2.1,by rw[L4 h];exact h0.2.2.1,fun x hx=>?_⟩
  simp only[L5,List.mem_replicate] at hx
  omega
theorem BC {m:Mat}(h:AY m=true):AJ m.p=true∧BZ m.r 0 40=true∧BZ m.c 0 40=true:=by
  simp only[AY,Bool.and_eq_true] at h
  exact⟨h.1,h.2.1,h.2.2.1⟩
theorem MatOk.get {m:Mat}(h:MatOk m)(i:Nat):0≤m.d.getD i 0∧m.d.getD i 0≤10007:=by
  have hp:=h.p1
  have hp0:=h.p0
  by_cases hi:i<m.d.length
  · have:=h.res (m.d.getD i 0) (by simp[List.getD,hi])
    omega
  · simp[List.getD,List.getElem?_eq_none (Nat.le_of_not_lt hi)]
theorem Kt (k p:Int):∀ ys:List Int,addF k p (List.replicate ys.length 0) ys=ys.map fun y=>(0+k*y)%p
  | []=>rfl
  | y::ys=>by simp[List.replicate_succ,addF,Kt k p ys]
theorem Ug {p r c k:Int}{d:List Int}(h:AY ⟨p,r,c,d⟩=true):(AE ⟨p,r,c,d⟩ k).d=d.map fun x=>(x*(k%p)).tmod p:=by
  have ok:=DG h
  have hl:=ok.len
  have hp0:=ok.p0
  simp only at hl hp0
  have hk0:0≤k%p:=Int.emod_nonneg _ (by omega)
  rw[AE,if_pos h]
  simp only[Gl,L5]
  have e:(r*c).toNat=d.length:=by omega
  rw[e,Kt]
  refine List.map_congr_left fun x hx=>?_
  have hx':=(ok.res x hx).1
  rw[Int.tmod_eq_emod_of_nonneg (Int.mul_nonneg hx' hk0),Int.zero_add,Int.mul_comm]
theorem BH {a b A B:Int}(ha:0≤a∧a≤A)(hb:0≤b∧b≤B):0≤a*b∧a*b≤A*B :=
  ⟨Int.mul_nonneg ha.1 hb.1,Int.le_trans (Int.mul_le_mul ha.2 hb.2 hb.1 (by omega)) (Int.le_refl _)⟩
def DY (f:Int→Int)(xs:List Int)(i:Nat):List Int:=(xs.take i).map f++xs.drop i
theorem O2 (f:Int→Int)(xs:List Int)(i:Nat):(DY f xs i).length=xs.length:=by
  simp only[DY,List.length_append,List.length_map,List.length_take,List.length_drop]
  omega
theorem PR (f:Int→Int)(xs:List Int)(i:Nat):(DY f xs i).getD i 0=xs.getD i 0:=by
  unfold DY
  by_cases h:i<xs.length
  · have hl:((xs.take i).map f).length=i:=by simp;omega
    simp only[List.getD]
    rw[List.getElem?_append_right (by omega),hl]
    simp
  · have h1:(List.map f (List.take i xs)++List.drop i xs).length≤i:=by simp;omega
    simp only[List.getD]
    rw[List.getElem?_eq_none h1,List.getElem?_eq_none (by omega)]
theorem PD (f:Int→Int){xs:List Int}{i:Nat}(h:i<xs.length):(DY f xs i).set i (f (xs.getD i 0))=DY f xs (i+1):=by
  unfold DY
  have hl:((xs.take i).map f).length=i:=by simp;omega
  have hd:xs.drop i=xs[i]'h::xs.drop (i+1):=List.drop_eq_getElem_cons h
  rw[List.set_append_right _ _ (by omega),hl,Nat.sub_self,hd,List.set_cons_zero,Ex xs i h]
  simp
theorem PW (f:Int→Int){xs:List Int}{i:Nat}(h:xs.length≤i):DY f xs i=xs.map f:=by
  unfold DY
  rw[List.take_of_length_le h,List.drop_eq_nil_of_le h,List.append_nil]
section
variable {P:Program}{n:Nat}{env:List (Nat × Value)}{W:World}{own:List Asn}{o:Oper}
theorem OD.indexSub {t:TypeId}{x y:Operand}{e bytes l h:Nat}{v z:Value}{xs:List Int}{k:Int}(hop:o.op = .indexAddr t x y)(et:ET P t e 1 bytes z)(hx:ev env x=some (Cc 1 v l h))(hv:Ent own fun w=>Ints w v xs)(hb:l≤h∧h≤xs.length)(hy:ev env y=some (.int .i64 k))(hk:0≤k∧k<((h - l:Nat):Int)) :
    OD P o n env W own (Aa v 1 (l+k.toNat)) own:=fun a w next Q hf hs hkk=>by
  have e:Aa (Cc 1 v l h) 1 k.toNat=Aa v 1 (l+k.toNat):=by
    obtain⟨_,ao,cap,rfl,h1,_,_,h4⟩:=hv W w hs
    obtain⟨b,off,rfl,_,_⟩:=h4 (by omega)
    simp only[Cc,Aa]
    rw[if_neg (by omega)]
    simp only[Option.map_some,Addr.add_lit,Nat.mul_one,Nat.add_assoc]
  have h0:=OD.indexAddr (P:=P) (n:=n) (W:=W) hop et hx (Ent.subInts hv hb) hy (by simp;omega)
  rw[e] at h0
  exact h0 a w next Q hf hs hkk
end
theorem Fg {α:Type}(f:α→Nat→α)(a:α)(k:Nat):(List.range (k+1)).foldl f a=f ((List.range k).foldl f a) k:=by
  rw[List.range_succ,List.foldl_append]
  rfl
theorem CV {α:Type}{f:α→Nat→α}{a x y:α}{k:Nat}(h:x=(List.range k).foldl f a)(hy:y=f x k):y=(List.range (k+1)).foldl f a:=by
  rw[Fg,← h]
  exact hy
theorem Cg {α:Type}{f:α→Nat→α}{a:α}(I:α→Prop)(n:Nat)(h0:I a)(hs:∀ x k,k<n→I x→I (f x k)):I ((List.range n).foldl f a):=by
  induction n with
  | zero=>exact h0
  | succ n ih =>
    rw[Fg]
    exact hs _ _ (Nat.lt_succ_self n) (ih fun x k hk=>hs x k (Nat.lt_succ_of_lt hk))
def MO (x:List Int)(l:Nat)(k p:Int)(y:List Int):List Int:=(List.range y.length).foldl (fun(o:List Int) (i:Nat)=>o.set (l+i) ((IntKind.i64.wrap (o.getD (l+i) 0+IntKind.i64.wrap (k*y.getD i 0))).tmod p)) x
theorem Nw (x:List Int)(l:Nat)(k p:Int)(y:List Int):(MO x l k p y).length=x.length:=Cg (fun o:List Int=>o.length=x.length) _ rfl fun o i _ h=>by rw[List.length_set];exact h
def rowY (bc:Int)(bd:List Int)(k:Nat):List Int:=(bd.drop ((k:Int)*bc).toNat).take ((((k:Int)+1)*bc).toNat - ((k:Int)*bc).toNat)
def FT (p ac bc:Int)(ad bd:List Int)(i:Nat)(o:List Int)(k:Nat):List Int:=if ad.getD ((i:Int)*ac+(k:Int)).toNat 0=0 then o else MO o ((i:Int)*bc).toNat (ad.getD ((i:Int)*ac+(k:Int)).toNat 0) p (rowY bc bd k)
def FR (p ac bc:Int)(ad bd:List Int)(i:Nat)(o:List Int):List Int:=(List.range ac.toNat).foldl (FT p ac bc ad bd i) o
def mulF (p ar ac bc:Int)(ad bd:List Int):List Int:=(List.range ar.toNat).foldl (fun(o:List Int) (i:Nat)=>FR p ac bc ad bd i o) (List.replicate (ar*bc).toNat 0)
theorem N8 (p ac bc:Int)(ad bd:List Int)(i:Nat)(o:List Int)(k:Nat):(FT p ac bc ad bd i o k).length=o.length:=by
  unfold FT
  split
  · rfl
  · exact Nw _ _ _ _ _
theorem PT (p ac bc:Int)(ad bd:List Int)(i:Nat)(o:List Int):(FR p ac bc ad bd i o).length=o.length:=Cg (fun x:List Int=>x.length=o.length) _ rfl fun x k _ h=>(N8 ..).trans h
theorem Eh (p ar ac bc:Int)(ad bd:List Int):(mulF p ar ac bc ad bd).length=(ar*bc).toNat:=Cg (fun x:List Int=>x.length=(ar*bc).toNat) _ (by simp) fun x k _ h=>(PT ..).trans h
theorem Cs {n c:Int}{i:Nat}(hc:0≤c)(hi:(i:Int)<n):0≤(i:Int)*c∧((i:Int)+1)*c=(i:Int)*c+c∧((i:Int)+1)*c≤n*c:=by
  refine⟨Int.mul_nonneg (by omega) hc,by rw[Int.add_mul,Int.one_mul],Int.mul_le_mul_of_nonneg_right (by omega) hc⟩
theorem T0 {c:Int}{bd:List Int}{k:Nat}(hc:0≤c):(rowY c bd k).length≤c.toNat:=by
  obtain⟨h1,h2,_⟩:=Cs (n:=(k:Int)+1) (i:=k) hc (by omega)
  unfold rowY
  rw[List.length_take]
  omega
theorem LL {n c:Int}{bd:List Int}{k:Nat}(hc:0≤c)(hk:(k:Int)<n)(hl:(bd.length:Int)=n*c):(rowY c bd k).length=c.toNat:=by
  obtain⟨h1,h2,h3⟩:=Cs hc hk
  unfold rowY
  rw[List.length_take,List.length_drop]
  omega
theorem Ov {c:Int}{bd:List Int}{k j:Nat}(hc:0≤c)(hj:(j:Int)<c):(rowY c bd k).getD j 0=bd.getD ((k:Int)*c+(j:Int)).toNat 0:=by
  obtain⟨h1,h2,_⟩:=Cs (n:=(k:Int)+1) (i:=k) hc (by omega)
  unfold rowY
  simp only[List.getD]
  rw[List.getElem?_take_of_lt (by omega),List.getElem?_drop]
  congr 2
  omega
theorem TF {c x p:Int}{ys bd:List Int}{i k j:Nat}(hc:0≤c)(hj:(j:Int)<c):ys.set ((i:Int)*c+(j:Int)).toNat ((IntKind.i64.wrap (ys.getD ((i:Int)*c+(j:Int)).toNat 0+IntKind.i64.wrap (x*bd.getD ((k:Int)*c+(j:Int)).toNat 0))).tmod p)=ys.set (((i:Int)*c).toNat+j) ((IntKind.i64.wrap (ys.getD (((i:Int)*c).toNat+j) 0+IntKind.i64.wrap (x*(rowY c bd k).getD j 0))).tmod p):=by
  obtain⟨h1,_,_⟩:=Cs (n:=(i:Int)+1) (i:=i) hc (by omega)
  rw[Ov hc hj,show ((i:Int)*c+(j:Int)).toNat=((i:Int)*c).toNat+j by omega]
def Rg (p:Int)(xs:List Int):Prop:=∀ i,0≤xs.getD i 0∧xs.getD i 0<p
theorem Rg.set {p x:Int}{xs:List Int}(h:Rg p xs)(hx:0≤x∧x<p)(k:Nat):Rg p (xs.set k x):=fun i=>by
  simp only[List.getD,List.getElem?_set]
  split
  · split
    · exact hx
    · have:=h i
      simp only[List.getD] at this
      simp
      omega
  · exact h i
theorem Rg.rep {p:Int}(hp:0<p)(n:Nat):Rg p (List.replicate n 0):=fun i=>by
  simp only[List.getD,List.getElem?_replicate]
  split <;> simp <;> omega
theorem Rg.mem {p x:Int}{xs:List Int}(h:Rg p xs)(hx:x∈xs):0≤x∧x<p:=by
  obtain⟨i,hi,e⟩:=List.getElem_of_mem hx
  have:=h i
  simp only[List.getD,List.getElem?_eq_getElem hi,e] at this
  exact this
theorem Rg.of {p:Int}(hp:0<p){xs:List Int}(h:∀ x∈xs,0≤x∧x<p):Rg p xs:=fun i=>by
  by_cases hi:i<xs.length
  · have:=h xs[i] (List.getElem_mem hi)
    simpa [List.getD,hi] using this
  · simp[List.getD,List.getElem?_eq_none (Nat.le_of_not_lt hi)]
    omega
theorem Rg.row {p c:Int}{bd:List Int}{k:Nat}(hp:0<p)(h:Rg p bd):Rg p (rowY c bd k):=Rg.of hp fun x hx=>h.mem (List.mem_of_mem_drop (List.mem_of_mem_take hx))
theorem fq {p k a b:Int}(hp:0<p∧p≤10007)(hk:0≤k∧k≤20000)(ha:0≤a∧a<p)(hb:0≤b∧b<p):IntKind.i64.wrap (a+IntKind.i64.wrap (k*b))=a+k*b:=by
  have hm:=BH (A:=20000) (B:=10007) (a:=k) (b:=b) hk (by omega)
  rw[Aj (x:=k*b) (by omega) (by omega),Aj (by omega) (by omega)]
theorem Y9 {p k:Int}{x y:List Int}{l:Nat}(hp:0<p∧p≤10007)(hk:0≤k∧k≤20000)(hx:Rg p x)(hy:Rg p y):Rg p (MO x l k p y):=Cg (fun o=>Rg p o) _ hx fun o i _ ho=>by
  refine ho.set ?_ _
  rw[fq hp hk (ho _) (hy _)]
  have hm:=BH (A:=20000) (B:=10007) (a:=k) (b:=y.getD i 0) hk (by have:=hy i;omega)
  have:=ho (l+i)
  exact⟨Int.tmod_nonneg _ (by omega),Int.tmod_lt_of_pos _ (by omega)⟩
theorem Fq {p ar ac bc:Int}{ad bd:List Int}(hp:0<p∧p≤10007)(ha:Rg p ad)(hb:Rg p bd):Rg p (mulF p ar ac bc ad bd):=Cg (fun o=>Rg p o) _ (Rg.rep hp.1 _) fun o i _ ho=>Cg (fun o=>Rg p o) _ ho fun o k _ ho=>by
  show Rg p (FT p ac bc ad bd i o k)
  unfold FT
  split
  · exact ho
  · exact Y9 hp (by have:=ha ((i:Int)*ac+(k:Int)).toNat;omega) ho (hb.row hp.1)
theorem NV {p ac bc n:Int}{ad bd us zs:List Int}{i k j:Nat}(hc:0≤bc)(hk:(k:Int)<n)(hl:(bd.length:Int)=n*bc)(hj:(j:Int)≤bc)
    (hu:us=(List.range j).foldl (fun(o:List Int) (j:Nat)=>o.set (((i:Int)*bc).toNat+j) ((IntKind.i64.wrap (o.getD (((i:Int)*bc).toNat+j) 0+IntKind.i64.wrap (ad.getD ((i:Int)*ac+(k:Int)).toNat 0*(rowY bc bd k).getD j 0))).tmod p)) zs)
    (h0:ad.getD ((i:Int)*ac+(k:Int)).toNat 0=0→j=0) (he:ad.getD ((i:Int)*ac+(k:Int)).toNat 0≠0→¬ (j:Int)<bc):us=FT p ac bc ad bd i zs k:=by
  unfold FT
  split
  · rename_i h
    rw[hu,h0 h]
    rfl
  · rename_i h
    have:=he h
    rw[hu]
    unfold MO
    rw[LL hc hk hl,show bc.toNat=j by omega]
theorem Dy {m:Mat}(h:AY m=true):Rg m.p m.d:=Rg.of (by have:=(DG h).p0;omega) (DG h).res
theorem Dn {m:Mat}(h:AY m=true):(0≤m.r∧m.r≤40)∧(0≤m.c∧m.c≤40)∧(m.d.length:Int)=m.r*m.c∧1≤m.p∧m.p≤10007:=by
  have h3:=BC h
  have ok:=DG h
  have a:=AX h3.2.1
  have b:=AX h3.2.2
  have hm:=BH (A:=40) (B:=40) a b
  have hl:=ok.len
  have:=ok.p0
  have:=ok.p1
  exact⟨a,b,by omega,by omega,by omega⟩
theorem Ee {p r c:Int}{d:List Int}(hp:1≤p∧p≤10007)(hl:d.length≤1600)(h:Rg p d):E2 ⟨p,r,c,d⟩ :=
  ⟨hp.1,by show p≤20000;omega,by show d.length≤1073741824;omega,fun x hx=>by have:=h.mem hx;omega⟩
end Go.Proofs.YtbmnnbglipkidaaGreatDoor
