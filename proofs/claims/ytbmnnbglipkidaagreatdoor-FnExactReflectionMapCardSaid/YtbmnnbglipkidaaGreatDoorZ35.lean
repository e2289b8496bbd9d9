/-
  Strings of roots: how often a root can be added; both texts in plain words. No program is spoken of.
-/
import Derived.Test.YtbmnnbglipkidaaGreatDoorWNewA
namespace Go.Proofs.YtbmnnbglipkidaaGreatDoor
set_option maxRecDepth 100000
set_option linter.unusedVariables false
set_option linter.unusedSimpArgs false
def FH (p:Nat→Bool):Nat→Nat→Nat
  | 0,m=>m
  | f+1,m=>if p (m+1) then FH p f (m+1) else m
theorem Ox {p:Nat→Bool}{m:Nat}(hm:m<40)(h:p (m+1)=true):FH p (40 - (m+1)) (m+1)=FH p (40 - m) m:=by
  rw[show 40 - m=(40 - (m+1))+1 by omega,FH,if_pos h]
theorem Qe {p:Nat→Bool}{m:Nat}(hm:m<40)(h:p (m+1)=false):FH p (40 - m) m=m:=by
  rw[show 40 - m=(40 - (m+1))+1 by omega,FH,h]
  rfl
theorem M1 {p:Nat→Bool}{m:Nat}(hm:m≤20)(h:p (m+1)=true)(hb:p 21=false):m+1≤20:=by
  by_cases e:m=20
  · subst e
    rw[hb] at h
    cases h
  · omega
theorem Gn {x y:List Int}{k:Int}{j:Nat}(hj:j<x.length)(hl:y.length=x.length):(Af x k y).getD j 0=IntKind.i64.wrap (x.getD j 0+IntKind.i64.wrap (k*y.getD j 0)):=by
  have hg:=CC (g:=fun i (z:Int)=>IntKind.i64.wrap (z+IntKind.i64.wrap (k*y.getD i 0))) (o:=x) (m:=y.length) (k:=j) (by omega) hj
  rw[if_pos (by omega)] at hg
  exact hg
theorem aP {x y:List Int}(m:Int)(hl:y.length=x.length):Af x m (Av y)=Af x (-1*m) y:=by
  refine A0 (by rw[AQ,AQ]) fun j hj=>?_
  rw[AQ] at hj
  rw[Gn hj (by rw[AC];exact hl),Gn hj hl,Bw,show m * -(y.getD j 0) = -1*m*y.getD j 0 by rw[Int.mul_neg,Int.neg_mul,Int.one_mul,Int.neg_mul]]
theorem RtOk.ent2 {n:Int}{d:List Int}(h:RtOk n d){x:List Int}(hx:rtB (rSt n d) x=true):(x.length:Int)=n∧∀ j, -10≤x.getD j 0∧x.getD j 0≤10:=by
  have hlo:=h.lo
  rw[rtB,Bool.or_eq_true] at hx
  rcases hx with hx | hx
  · obtain⟨h1,h2⟩:=h.smem (List.contains_iff_mem.1 hx)
    exact⟨by omega,fun j=>by have:=h2 j;omega⟩
  · obtain⟨h1,h2⟩:=h.smem (List.contains_iff_mem.1 hx)
    rw[AC] at h1
    exact⟨by omega,fun j=>by have:=h2 j;rw[Bw] at this;omega⟩
theorem RtOk.any {n:Int}{d:List Int}(h:RtOk n d){x:List Int}(h64:All64 x):rtB (rSt n d) x=EL n (A7 n d) x:=by
  rw[h.rt h64]
  cases e:rtB (rSt n d) x with
  | false=>rw[Bool.and_false]
  | true =>
    obtain⟨h1,h2⟩:=h.ent2 e
    rw[Ey h1 fun k _=>by have:=h2 k;omega]
    rfl
theorem RtOk.nz {n:Int}{d:List Int}(h:RtOk n d)(hn:RnOk n d){x:List Int}(hx:rtB (rSt n d) x=true):∃ j,j<x.length∧x.getD j 0≠0:=by
  rw[rtB,Bool.or_eq_true] at hx
  rcases hx with hx | hx
  · obtain⟨k,hk,h1⟩:=hn.nz _ (List.contains_iff_mem.1 hx)
    exact⟨k,hk,by omega⟩
  · obtain⟨k,hk,h1⟩:=hn.nz _ (List.contains_iff_mem.1 hx)
    rw[AC] at hk
    rw[Bw] at h1
    exact⟨k,hk,by omega⟩
theorem Q7 {n:Int}{d x y:List Int}(hS:(Ax n d).isSome=true)(hx:rtB (rSt n d) x=true)(hy:rtB (rSt n d) y=true)(hx64:All64 x){k:Int}(hk:k=1∨k = -1):EL n (A7 n d) (Af x (k*((21:Nat):Int)) y)=false:=by
  have h:=rtOk hS
  obtain⟨x1,x2⟩:=h.ent2 hx
  obtain⟨y1,y2⟩:=h.ent2 hy
  obtain⟨j,hj,hjn⟩:=h.nz (PG hS) hy
  cases e:EL n (A7 n d) (Af x (k*((21:Nat):Int)) y) with
  | false=>rfl
  | true =>
    exfalso
    rw[← h.any (Bn hx64)] at e
    have h3:=(h.ent2 e).2 j
    rw[Gn (by omega) (by omega)] at h3
    have h4:=x2 j
    have h5:=y2 j
    rcases hk with rfl | rfl
    · rw[Aj (x:=1*((21:Nat):Int)*y.getD j 0) (by omega) (by omega),Aj (by omega) (by omega)] at h3
      omega
    · rw[Aj (x := -1*((21:Nat):Int)*y.getD j 0) (by omega) (by omega),Aj (by omega) (by omega)] at h3
      omega
theorem Vk {n:Int}{d x y:List Int}(hS:(Ax n d).isSome=true)(hx64:All64 x)(hl:y.length=x.length):(fun(m:Nat)=>rtB (rSt n d) (Af x (m:Int) (Av y)))=fun(m:Nat)=>EL n (A7 n d) (Af x (-1*(m:Int)) y):=funext fun m=>by rw[aP _ hl,(rtOk hS).any (Bn hx64)]
theorem PS {n:Int}{d x y:List Int}(hS:(Ax n d).isSome=true)(hx:rtB (rSt n d) x=true)(hy:rtB (rSt n d) y=true)(hx64:All64 x)(hl:y.length=x.length):rtB (rSt n d) (Af x ((21:Nat):Int) (Av y))=false:=(congrFun (Vk hS hx64 hl) 21).trans (Q7 hS hx hy hx64 (.inr rfl))
theorem T4 {x y:List Int}{m:Nat}(hm:m≤21)(hl:y.length=x.length)(hx:∀ j, -10≤x.getD j 0∧x.getD j 0≤10)(hy:∀ j, -10≤y.getD j 0∧y.getD j 0≤10):∀ k,k<(Af x (m:Int) y).length → -1000≤(Af x (m:Int) y).getD k 0∧(Af x (m:Int) y).getD k 0≤1000:=fun k hk=>by
  rw[AQ] at hk
  have h1:=hx k
  have h2:=hy k
  have h3:=A9 (a:=(m:Int)) (b:=y.getD k 0) (A:=21) (B:=10) (by omega) (by omega)
  rw[Gn hk hl,Aj (x:=(m:Int)*y.getD k 0) (by omega) (by omega),Aj (by omega) (by omega)]
  omega
theorem Uf {y:List Int}(h:∀ j, -10≤y.getD j 0∧y.getD j 0≤10):∀ j, -10≤(Av y).getD j 0∧(Av y).getD j 0≤10:=fun j=>by
  have:=h j
  rw[Bw]
  omega
def Cd (chk:Int→List Int→Bool)(n a b:Nat):Bool:=(((Bt n).drop a).take b).all fun d=>chk n d
theorem ZO {n:Nat}(a:1≤n)(b:n≤4):(Bt n).length≤256:=four (P:=fun n=>(Bt n).length≤256) (by decide +kernel) (by decide +kernel) (by decide +kernel) (by decide +kernel) a b
theorem cnd_one {chk:Int→List Int→Bool}{n a b:Nat}(h:Cd chk n a b=true){d:List Int}(hd:d∈(Bt n).drop a):chk n d=true∨d∈(Bt n).drop (a+b):=by
  simp only[Cd,List.all_eq_true] at h
  rcases mem_parts b hd with h2 | h2
  · exact .inl (h d (by simpa using h2))
  · rw[List.drop_drop] at h2
    exact .inr h2
theorem Zi {chk:Int→List Int→Bool}(h1:Cd chk 1 0 256=true)(h2:Cd chk 2 0 256=true)(h3:Cd chk 3 0 256=true)
    (p0:Cd chk 4 0 64=true) (p1:Cd chk 4 64 64=true) (p2:Cd chk 4 128 64=true) (p3:Cd chk 4 192 64=true) {n:Int} {d:List Int} (h:(Ax n d).isSome=true):chk n d=true:=by
  obtain⟨ks,hk⟩:=Option.isSome_iff_exists.1 h
  obtain⟨m,rfl,a,b,hd⟩:=D3 hk
  have hl:=ZO a b
  have e:(Bt m).drop 256 = []:=List.drop_of_length_le hl
  have h0:d∈(Bt m).drop 0:=by rwa [List.drop_zero]
  rcases(by omega:m=1∨m=2∨m=3∨m=4) with rfl | rfl | rfl | rfl
  · rcases cnd_one h1 h0 with h | h
    · exact h
    · rw[Nat.zero_add,e] at h;simp at h
  · rcases cnd_one h2 h0 with h | h
    · exact h
    · rw[Nat.zero_add,e] at h;simp at h
  · rcases cnd_one h3 h0 with h | h
    · exact h
    · rw[Nat.zero_add,e] at h;simp at h
  · rcases cnd_one p0 h0 with h | h
    · exact h
    rcases cnd_one p1 h with h | h
    · exact h
    rcases cnd_one p2 h with h | h
    · exact h
    rcases cnd_one p3 h with h | h
    · exact h
    rw[e] at h
    simp at h
def el {α:Type}(n:Nat)(k:Nat→α):α:=match n with
  | 0=>k 0
  | m+1=>k (m+1)
theorem ML {α:Type}(n:Nat)(k:Nat→α):el n k=k n:=by cases n <;> rfl
def bI {α:Type}(x:Int)(k:Int→α):α:=match x with
  | .ofNat n=>el n fun m=>k (.ofNat m)
  | .negSucc n=>el n fun m=>k (.negSucc m)
theorem GW {α:Type}(x:Int)(k:Int→α):bI x k=k x:=by
  cases x with
  | ofNat n=>exact ML n fun m=>k (.ofNat m)
  | negSucc n=>exact ML n fun m=>k (.negSucc m)
def KY {α:Type}:List Int→(List Int→α)→α
  | [],k=>k []
  | x::t,k=>bI x fun y=>KY t fun s=>k (y::s)
theorem B3 {α:Type}:∀ (l:List Int) (k:List Int→α),KY l k=k l
  | [],_=>rfl
  | x::t,k=>by rw[KY,GW,B3 t]
def Ux {α:Type}:List (List Int)→(List (List Int)→α)→α
  | [],k=>k []
  | x::t,k=>KY x fun y=>Ux t fun s=>k (y::s)
theorem Qz {α:Type}:∀ (l:List (List Int)) (k:List (List Int)→α),Ux l k=k l
  | [],_=>rfl
  | x::t,k=>by rw[Ux,B3,Qz t]
def ten (x:List Int):Prop:=∀ j, -10≤x.getD j 0∧x.getD j 0≤10
open Go.RowKit
theorem LI:∀ us w,(callFunc 47 us).run Tryz.prog w = .ok (.enter 47 us) w:=fun us w=>by kernel_rfl
theorem ZR:∀ us w,(callFunc 53 us).run Tryz.prog w = .ok (.enter 53 us) w:=fun us w=>by kernel_rfl
theorem eM:∀ us w,(callFunc 55 us).run Tryz.prog w = .ok (.enter 55 us) w:=fun us w=>by kernel_rfl
theorem Yz {W:World}{own:List Asn}{rr:Int}{vrd:Value}{vrs:Value}{urs:List Value}{rs:Nat}{grm:Nat}{rm:List (List Int × Int)}{vx:Value}{x:List Int}{vy:Value}{y:List Int}{k:Int}(srd:Ab vrd)(srs:Ab vrs)(ers:Ent own fun w=>Sl w vrs rs 1 urs)(hrm:Ent own (BO Bc valI grm rm))(sx:Ab vx)(ex:Ent own fun w=>Ints w vx x)(sy:Ab vy)(ey:Ent own fun w=>Ints w vy y)(hrr:rr≤4)(h64x:All64 x)(hlx:x.length≤1073741824)(hle:y.length≤x.length)(hk : -1≤k∧k≤1)(hb:EL rr rm (Af x (k*((21:Nat):Int)) y)=false)(htab:Ent own Cm):Spec Tryz.prog 55 [.agg #[J (rr),vrd,vrs,.map (some grm)],vx,vy,J (k)] W own (fun v ow=>v=J ((FH (fun(m:Nat)=>EL rr rm (Af x (k*(m:Int)) y)) 40 0:Nat))∧ow=own):=by
 refine Spec.enter Tryz.f55 _ Tryz.func55 rfl (n:=22) rfl rfl ?_
 refine Zs (Zr (Yt (OG.box (cs:=[J (rr),vrd,vrs,.map (some grm)]) rfl rfl rfl) ?_))
 rintro _ _ ⟨g1,rfl,rfl⟩
 refine Za rfl (Zn (Zt (Zs (Zr (Za rfl (Zn (Zt (Zs (GC.block ?_)))))))))
 refine Yl (ι:=Nat) (fun m=>[(1,vx),(2,vy),(3,J (k)),(4,Pg g1 0),(9,J ((m:Int)))]) (fun m=>box g1 64 [J (rr),vrd,vrs,.map (some grm)]::own) (fun m=>(m≤20)∧(FH (fun(m:Nat)=>EL rr rm (Af x (k*(m:Int)) y)) (40 - m) m=FH (fun(m:Nat)=>EL rr rm (Af x (k*(m:Int)) y)) 40 0)) (fun m=>20 - m) 0 (⟨by omega,rfl⟩) [] 0 ?_
 rintro m ⟨hm,hr⟩
 have hkm:=A9 (a:=k) (b:=(m:Int)+1) (A:=1) (B:=21) (by omega) (by omega)
 have hll:=AQ x (k*((m:Int)+1)) y
 refine Zs (Zs (Ya [(1,_),(2,_),(3,_),(4,_),(9,_)] ?_))
 refine Wp [Z0 10 (.agg #[J (rr),vrd,vrs,.map (some grm)]),Z0 11 vx,Z0 12 (J (k)),Z0 13 (J ((m:Int))),Z1 14 [(3,13)] (J ((m:Int)+1)),Z1 15 [(2,12),(4,14)] (J (k*((m:Int)+1))),Z0 16 vy,⟨17,[(1,11),(5,15),(6,16)],[],[],[7],fun ds=>((ds.getD 0 []).getD 0 undef),fun ds=>Ab ((ds.getD 0 []).getD 0 undef),fun ds=>[ints 3 ((ds.getD 0 []).getD 0 undef) (Af x (k*((m:Int)+1)) y)]⟩,⟨18,[(0,10),(7,17)],[7],[],[7],fun _ => .bool (EL rr rm (Af x (k*((m:Int)+1)) y)),fun _=>True,fun _=>[]⟩] (Zc (fun _ _ _=>Zq (Qa Df 0 [_,_,_,_]) rfl) (Yv (Yv (Yv (Zc (fun _ _ _=>Zq Qp rfl) (Zc (fun _ _ _=>Zq Qm rfl) (Yv (Zc (fun _ _ _=>AR.plain (OG.imp (Yc [vx,J (k*((m:Int)+1)),vy] Gx (by exact(BQ sx (Ent.drop 1 ex.app) sy (Ent.drop 1 ey.app) (hlx) (hle)))) (by rintro v2 _ ⟨_,rfl,hs3,rfl⟩;exact⟨[v2],rfl,hs3,rfl⟩)) rfl) (Zc (fun θ _ ⟨_,h7d,_⟩=>Zq (Yc [.agg #[J (rr),vrd,vrs,.map (some grm)],((θ 7).getD 0 undef)] QR (by exact(QV srd srs (Ent.drop 2 ers.app) (Ent.drop 2 hrm.app) h7d (Ei 0) (hrr) (Bn h64x) (by omega) ((Ent.drop 2 htab.app))))) rfl) As.nil))))))))) ?_
 intro θ hall
 obtain⟨_,_,_,_,_,_,_,h7a,_,_⟩:=hall
 refine Yb [(1,_),(2,_),(3,_),(4,_),(9,_),(18,.bool (EL rr rm (Af x (k*((m:Int)+1)) y)))] (ints 3 ((θ 7).getD 0 undef) (Af x (k*((m:Int)+1)) y)::_::_) ?_
 have hs4:Ab ((θ 7).getD 0 undef):=h7a
 clear h7a
 generalize ((θ 7).getD 0 undef)=v5 at *
 show G _ _ _ [] _ _ _ _
 refine Zn (Zt ?_)
 refine GC.cond rfl (fun hc6=>?_) (fun hc6=>?_)
 have hm2:=M1 (p:=fun(m:Nat)=>EL rr rm (Af x (k*(m:Int)) y)) hm hc6 hb
 refine Zk (Zt (GC.block (Zr ?_)))
 refine Zm rfl (Zd Qp rfl ?_)
 refine Za rfl (Zn (GE.blockN ?_))
 exact Yg (m+1) (⟨M1 (p:=fun(m:Nat)=>EL rr rm (Af x (k*(m:Int)) y)) hm hc6 hb,(Ox (p:=fun(m:Nat)=>EL rr rm (Af x (k*(m:Int)) y)) (by omega) hc6).trans hr⟩) [1] 1
 refine GC.exit (Zp (Zp (GE.hit (Zt (Zs (Zr ?_))))))
 refine Zm rfl (Za rfl (Zn (Zt (GC.ret ?_))))
 exact GE.body [] 2 (Ao rfl rfl) rfl (⟨congrArg (fun a0=>(J (a0):Value)) ((by rw[← hr,Qe (by omega) hc6]:((m:Int):Int)=(FH (fun(m:Nat)=>EL rr rm (Af x (k*(m:Int)) y)) 40 0:Nat))),rfl⟩)
theorem Xt {W:World}{own:List Asn}{vL:Value}{uL:List Value}{L:List (List Int)}{vx:Value}{x:List Int}{vy:Value}{y:List Int}(sL:Ab vL)(eL:Ent own fun w=>Sl w vL L.length 1 uL)(mL:∀ k,k<L.length→Ent own fun w=>Ints w (uL.getD k undef) (L.getD k []))(lL:uL.length=L.length)(aL:AllS uL)(sx:Ab vx)(ex:Ent own fun w=>Ints w vx x)(sy:Ab vy)(ey:Ent own fun w=>Ints w vy y)(hll:L.length≤1073741824)(hle:∀ k,k<L.length→(L.getD k []).length≤1073741824)(hlx:x.length≤1073741824)(hlxy:y.length=x.length)(hbx:∀ j, -10≤x.getD j 0∧x.getD j 0≤10)(hby:∀ j, -10≤y.getD j 0∧y.getD j 0≤10)(hb:rtB L (Af x ((21:Nat):Int) y)=false):Spec Tryz.prog 178 [vL,vx,vy] W own (fun v ow=>v=J ((FH (fun(m:Nat)=>rtB L (Af x (m:Int) y)) 40 0:Nat))∧ow=own):=by
 refine Spec.enter Tryz.f178 _ Tryz.func178 rfl (n:=18) rfl rfl ?_
 refine Zs (Zr (Za rfl (Zn (Zt (Zs (Zr (Za rfl (Zn (Zt (Zs (GC.block ?_)))))))))))
 refine Yl (ι:=Nat) (fun m=>[(0,vL),(1,vx),(2,vy),(7,J ((m:Int)))]) (fun m=>own) (fun m=>(m≤20)∧(FH (fun(m:Nat)=>rtB L (Af x (m:Int) y)) (40 - m) m=FH (fun(m:Nat)=>rtB L (Af x (m:Int) y)) 40 0)) (fun m=>20 - m) 0 (⟨by omega,rfl⟩) [] 0 ?_
 rintro m ⟨hm,hr⟩
 have hls:=T4 (m:=m+1) (by omega) hlxy hbx hby
 have hll2:=AQ x ((m:Int)+1) y
 refine Zs (Zs (Zr (Zm rfl (Zm rfl (Zm rfl (Zd Qp rfl ?_))))))
 refine Zm rfl (Yt (Yc [vx,J ((m:Int)+1),vy] LI (by exact(Eg sx ex sy ey (hlx) (hlxy)))) ?_)
 rintro v1 _ ⟨_,rfl,hs2,rfl⟩
 refine Yt (Yc [vL,v1] N1 (by exact(Ds sL (Ent.drop 1 eL) (fun k hk=>(Ent.drop 1 (mL k hk))) lL aL hs2 (Ent.ints (i:=0) rfl) (hll) (hle) (hls) (by omega)))) ?_
 rintro _ _ ⟨rfl,rfl⟩
 refine Zn (Zt ?_)
 refine GC.cond rfl (fun hc3=>?_) (fun hc3=>?_)
 have hm2:=M1 (p:=fun(m:Nat)=>rtB L (Af x (m:Int) y)) hm hc3 hb
 refine Zk (Zt (GC.block (Zr ?_)))
 refine Zm rfl (Zd Qp rfl ?_)
 refine Za rfl (Zn (GE.blockN ?_))
 exact Yg (m+1) (⟨M1 (p:=fun(m:Nat)=>rtB L (Af x (m:Int) y)) hm hc3 hb,(Ox (p:=fun(m:Nat)=>rtB L (Af x (m:Int) y)) (by omega) hc3).trans hr⟩) [] 1
 refine GC.exit (Zp (Zp (GE.hit (Zt (Zs (Zr ?_))))))
 refine Zm rfl (Za rfl (Zn (Zt (GC.ret ?_))))
 exact GE.body [] 1 (Ao rfl rfl) rfl (⟨congrArg (fun a0=>(J (a0):Value)) ((by rw[← hr,Qe (by omega) hc3]:((m:Int):Int)=(FH (fun(m:Nat)=>rtB L (Af x (m:Int) y)) 40 0:Nat))),rfl⟩)
end Go.Proofs.YtbmnnbglipkidaaGreatDoor
