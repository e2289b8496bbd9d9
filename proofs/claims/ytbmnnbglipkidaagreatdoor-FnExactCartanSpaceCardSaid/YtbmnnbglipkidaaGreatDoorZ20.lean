/-
  Strings of roots: how often a root can be added; both texts in plain words. No program is spoken of.
-/
import Derived.Test.YtbmnnbglipkidaaGreatDoorNewA
import Derived.Test.YtbmnnbglipkidaaGreatDoorCarV
import Derived.Test.YtbmnnbglipkidaaGreatDoorRts
import Derived.Test.YtbmnnbglipkidaaGreatDoorZ17
import Derived.Test.YtbmnnbglipkidaaGreatDoorFct
import Derived.Test.YtbmnnbglipkidaaGreatDoorWNewA
namespace Go.Proofs.YtbmnnbglipkidaaGreatDoor
set_option linter.unusedVariables false
set_option linter.unusedSimpArgs false
def rch (p:Nat→Bool):Nat→Nat→Nat
  | 0,m=>m
  | f+1,m=>if p (m+1) then rch p f (m+1) else m
theorem rch_step {p:Nat→Bool}{m:Nat}(hm:m<40)(h:p (m+1)=true):rch p (40 - (m+1)) (m+1)=rch p (40 - m) m:=by
  rw[show 40 - m=(40 - (m+1))+1 by omega,rch,if_pos h]
theorem rch_end {p:Nat→Bool}{m:Nat}(hm:m<40)(h:p (m+1)=false):rch p (40 - m) m=m:=by
  rw[show 40 - m=(40 - (m+1))+1 by omega,rch,h]
  rfl
theorem rch_le {p:Nat→Bool}{m:Nat}(hm:m≤20)(h:p (m+1)=true)(hb:p 21=false):m+1≤20:=by
  by_cases e:m=20
  · subst e
    rw[hb] at h
    cases h
  · omega
theorem lpF_get {x y:List Int}{k:Int}{j:Nat}(hj:j<x.length)(hl:y.length=x.length):(lpF x k y).getD j 0=IntKind.i64.wrap (x.getD j 0+IntKind.i64.wrap (k*y.getD j 0)):=by
  have hg:=fset_get (g:=fun i (z:Int)=>IntKind.i64.wrap (z+IntKind.i64.wrap (k*y.getD i 0))) (o:=x) (m:=y.length) (k:=j) (by omega) hj
  rw[if_pos (by omega)] at hg
  exact hg
theorem RtOk.ent2 {n:Int}{d:List Int}(h:RtOk n d){x:List Int}(hx:rtB (rSt n d) x=true):(x.length:Int)=n∧∀ j, -10≤x.getD j 0∧x.getD j 0≤10:=by
  have hlo:=h.lo
  rw[rtB,Bool.or_eq_true] at hx
  rcases hx with hx | hx
  · obtain⟨h1,h2⟩:=h.smem (List.contains_iff_mem.1 hx)
    exact⟨by omega,fun j=>by have:=h2 j;omega⟩
  · obtain⟨h1,h2⟩:=h.smem (List.contains_iff_mem.1 hx)
    rw[mnF_len] at h1
    exact⟨by omega,fun j=>by have:=h2 j;rw[mnF_get] at this;omega⟩
theorem RtOk.any {n:Int}{d:List Int}(h:RtOk n d){x:List Int}(h64:All64 x):rtB (rSt n d) x=fdB n (rKvs n d) x:=by
  rw[h.rt h64]
  cases e:rtB (rSt n d) x with
  | false=>rw[Bool.and_false]
  | true =>
    obtain⟨h1,h2⟩:=h.ent2 e
    rw[wtOk_of h1 fun k _=>by have:=h2 k;omega]
    rfl
theorem RtOk.nz {n:Int}{d:List Int}(h:RtOk n d)(hn:RnOk n d){x:List Int}(hx:rtB (rSt n d) x=true):∃ j,j<x.length∧x.getD j 0≠0:=by
  rw[rtB,Bool.or_eq_true] at hx
  rcases hx with hx | hx
  · obtain⟨k,hk,h1⟩:=hn.nz _ (List.contains_iff_mem.1 hx)
    exact⟨k,hk,by omega⟩
  · obtain⟨k,hk,h1⟩:=hn.nz _ (List.contains_iff_mem.1 hx)
    rw[mnF_len] at hk
    rw[mnF_get] at h1
    exact⟨k,hk,by omega⟩
theorem rs_stop {n:Int}{d x y:List Int}(hS:(tyS n d).isSome=true)(hx:rtB (rSt n d) x=true)(hy:rtB (rSt n d) y=true)(hx64:All64 x){k:Int}(hk:k=1∨k = -1):fdB n (rKvs n d) (lpF x (k*((21:Nat):Int)) y)=false:=by
  have h:=rtOk hS
  obtain⟨x1,x2⟩:=h.ent2 hx
  obtain⟨y1,y2⟩:=h.ent2 hy
  obtain⟨j,hj,hjn⟩:=h.nz (rnOk hS) hy
  cases e:fdB n (rKvs n d) (lpF x (k*((21:Nat):Int)) y) with
  | false=>rfl
  | true =>
    exfalso
    rw[← h.any (lpF_all64 hx64)] at e
    have h3:=(h.ent2 e).2 j
    rw[lpF_get (by omega) (by omega)] at h3
    have h4:=x2 j
    have h5:=y2 j
    rcases hk with rfl | rfl
    · rw[wrap_in (x:=1*((21:Nat):Int)*y.getD j 0) (by omega) (by omega),wrap_in (by omega) (by omega)] at h3
      omega
    · rw[wrap_in (x := -1*((21:Nat):Int)*y.getD j 0) (by omega) (by omega),wrap_in (by omega) (by omega)] at h3
      omega
theorem mn_ten {y:List Int}(h:∀ j, -10≤y.getD j 0∧y.getD j 0≤10):∀ j, -10≤(mnF y).getD j 0∧(mnF y).getD j 0≤10:=fun j=>by
  have:=h j
  rw[mnF_get]
  omega
end Go.Proofs.YtbmnnbglipkidaaGreatDoor
namespace Go.Proofs.YtbmnnbglipkidaaGreatDoor
set_option linter.unusedVariables false
set_option linter.unusedSimpArgs false
def cndP (chk:Int→List Int→Bool)(n a b:Nat):Bool:=(((candL n).drop a).take b).all fun d=>chk n d
theorem cnd_len {n:Nat}(a:1≤n)(b:n≤4):(candL n).length≤256:=four (P:=fun n=>(candL n).length≤256) (by decide +kernel) (by decide +kernel) (by decide +kernel) (by decide +kernel) a b
theorem cnd_one {chk:Int→List Int→Bool}{n a b:Nat}(h:cndP chk n a b=true){d:List Int}(hd:d∈(candL n).drop a):chk n d=true∨d∈(candL n).drop (a+b):=by
  simp only[cndP,List.all_eq_true] at h
  rcases mem_parts b hd with h2 | h2
  · exact .inl (h d (by simpa using h2))
  · rw[List.drop_drop] at h2
    exact .inr h2
theorem cnd_all {chk:Int→List Int→Bool}(h1:cndP chk 1 0 256=true)(h2:cndP chk 2 0 256=true)(h3:cndP chk 3 0 256=true)
    (p0:cndP chk 4 0 64=true) (p1:cndP chk 4 64 64=true) (p2:cndP chk 4 128 64=true) (p3:cndP chk 4 192 64=true) {n:Int} {d:List Int} (h:(tyS n d).isSome=true):chk n d=true:=by
  obtain⟨ks,hk⟩:=Option.isSome_iff_exists.1 h
  obtain⟨m,rfl,a,b,hd⟩:=tyS_cand hk
  have hl:=cnd_len a b
  have e:(candL m).drop 256 = []:=List.drop_of_length_le hl
  have h0:d∈(candL m).drop 0:=by rwa [List.drop_zero]
  rcases(by omega:m=1∨m=2∨m=3∨m=4) with rfl | rfl | rfl | rfl
  · rcases cnd_one h1 h0 with h | h
    · exact h
    · rw[Nat.zero_add,e] at h;simp at h
  · rcases cnd_one h2 h0 with h | h
    · exact h
    · rw[Nat.zero_add,e] at h;simp at h
  · rcases cnd_one h3 h0 with h | h
    · exact h
    · rw[Nat.zero_add,e] at h;simp at h
  · rcases cnd_one p0 h0 with h | h
    · exact h
    rcases cnd_one p1 h with h | h
    · exact h
    rcases cnd_one p2 h with h | h
    · exact h
    rcases cnd_one p3 h with h | h
    · exact h
    rw[e] at h
    simp at h
end Go.Proofs.YtbmnnbglipkidaaGreatDoor
namespace Go.Proofs.YtbmnnbglipkidaaGreatDoor
set_option linter.unusedVariables false
set_option linter.unusedSimpArgs false
end Go.Proofs.YtbmnnbglipkidaaGreatDoor
namespace Go.Proofs.YtbmnnbglipkidaaGreatDoor
set_option linter.unusedVariables false
set_option linter.unusedSimpArgs false
def rcN {α:Type}(n:Nat)(k:Nat→α):α:=match n with
  | 0=>k 0
  | m+1=>k (m+1)
theorem rcN_eq {α:Type}(n:Nat)(k:Nat→α):rcN n k=k n:=by cases n <;> rfl
def rcZ {α:Type}(x:Int)(k:Int→α):α:=match x with
  | .ofNat n=>rcN n fun m=>k (.ofNat m)
  | .negSucc n=>rcN n fun m=>k (.negSucc m)
theorem rcZ_eq {α:Type}(x:Int)(k:Int→α):rcZ x k=k x:=by
  cases x with
  | ofNat n=>exact rcN_eq n fun m=>k (.ofNat m)
  | negSucc n=>exact rcN_eq n fun m=>k (.negSucc m)
def rcL {α:Type}:List Int→(List Int→α)→α
  | [],k=>k []
  | x::t,k=>rcZ x fun y=>rcL t fun s=>k (y::s)
theorem rcL_eq {α:Type}:∀ (l:List Int) (k:List Int→α),rcL l k=k l
  | [],_=>rfl
  | x::t,k=>by rw[rcL,rcZ_eq,rcL_eq t]
def rcLL {α:Type}:List (List Int)→(List (List Int)→α)→α
  | [],k=>k []
  | x::t,k=>rcL x fun y=>rcLL t fun s=>k (y::s)
theorem rcLL_eq {α:Type}:∀ (l:List (List Int)) (k:List (List Int)→α),rcLL l k=k l
  | [],_=>rfl
  | x::t,k=>by rw[rcLL,rcL_eq,rcLL_eq t]
def ten (x:List Int):Prop:=∀ j, -10≤x.getD j 0∧x.getD j 0≤10
end Go.Proofs.YtbmnnbglipkidaaGreatDoor
namespace Go.Proofs.YtbmnnbglipkidaaGreatDoor
set_option linter.unusedVariables false
set_option linter.unusedSimpArgs false
open Go.RowKit
theorem ent53:∀ us w,(callFunc 53 us).run Tryz.prog w = .ok (.enter 53 us) w:=fun us w=>by kernel_rfl
theorem ent55:∀ us w,(callFunc 55 us).run Tryz.prog w = .ok (.enter 55 us) w:=fun us w=>by kernel_rfl
set_option maxRecDepth 100000 in
theorem reach_w {W:World}{own:List Asn}{rr:Int}{vrd:Value}{vrs:Value}{urs:List Value}{rs:Nat}{grm:Nat}{rm:List (List Int × Int)}{vx:Value}{x:List Int}{vy:Value}{y:List Int}{k:Int}(srd:IsS vrd)(srs:IsS vrs)(ers:Ent own fun w=>Sl w vrs rs 1 urs)(hrm:Ent own (MapIs keyL valI grm rm))(sx:IsS vx)(ex:Ent own fun w=>Ints w vx x)(sy:IsS vy)(ey:Ent own fun w=>Ints w vy y)(hrr:rr≤4)(h64x:All64 x)(hlx:x.length≤1073741824)(hle:y.length≤x.length)(hk : -1≤k∧k≤1)(hb:fdB rr rm (lpF x (k*((21:Nat):Int)) y)=false)(htab:Ent own Pow10):Spec Tryz.prog 55 [.agg #[.int .i64 (rr),vrd,vrs,.map (some grm)],vx,vy,.int .i64 (k)] W own (fun v ow=>v = .int .i64 ((rch (fun(m:Nat)=>fdB rr rm (lpF x (k*(m:Int)) y)) 40 0:Nat))∧ow=own):=by
 refine Spec.enter Tryz.f55 _ Tryz.func55 rfl (n:=22) rfl rfl ?_
 refine Zs (Zr (G.step (OG.box (cs:=[.int .i64 (rr),vrd,vrs,.map (some grm)]) rfl rfl rfl) rfl rfl rfl ?_))
 rintro _ _ ⟨g1,rfl,rfl⟩
 refine Za rfl (Zn (Zt (Zs (Zr (Za rfl (Zn (Zt (Zs (GC.block ?_)))))))))
 refine GC.loop (ι:=Nat) (fun m=>[(1,vx),(2,vy),(3,.int .i64 (k)),(4,.pointer (some ⟨g1,0,none⟩)),(9,.int .i64 ((m:Int)))]) (fun m=>box g1 64 [.int .i64 (rr),vrd,vrs,.map (some grm)]::own) (fun m=>(m≤20)∧(rch (fun(m:Nat)=>fdB rr rm (lpF x (k*(m:Int)) y)) (40 - m) m=rch (fun(m:Nat)=>fdB rr rm (lpF x (k*(m:Int)) y)) 40 0)) (fun m=>20 - m) 0 (⟨by omega,rfl⟩) ⟨rfl,rfl,rfl,rfl,rfl,trivial⟩ [] 0 rfl ?_
 rintro m ⟨hm,hr⟩
 have hkm:=mul_abs (a:=k) (b:=(m:Int)+1) (A:=1) (B:=21) (by omega) (by omega)
 have hll:=lpF_len x (k*((m:Int)+1)) y
 refine Zs (Zs (GC.at [] 0 (env':=[(1,vx),(2,vy),(3,.int .i64 (k)),(4,.pointer (some ⟨g1,0,none⟩)),(9,.int .i64 ((m:Int)))]) ⟨rfl,rfl,rfl,rfl,rfl,trivial⟩ rfl ?_))
 refine GC.par (its:=[Z0 10 (.agg #[.int .i64 (rr),vrd,vrs,.map (some grm)]),
     Z0 11 vx,
     Z0 12 (.int .i64 (k)),
     Z0 13 (.int .i64 ((m:Int))),
     Z1 14 [(3,13)] (.int .i64 ((m:Int)+1)),
     Z1 15 [(2,12),(4,14)] (.int .i64 (k*((m:Int)+1))),
     Z0 16 vy,
     ⟨17,[(1,11),(5,15),(6,16)],[],[],[7],fun ds=>((ds.getD 0 []).getD 0 undef),fun ds=>IsS ((ds.getD 0 []).getD 0 undef),fun ds=>[ints 3 ((ds.getD 0 []).getD 0 undef) (lpF x (k*((m:Int)+1)) y)]⟩,
     ⟨18,[(0,10),(7,17)],[7],[],[7],fun _ => .bool (fdB rr rm (lpF x (k*((m:Int)+1)) y)),fun _=>True,fun _=>[]⟩]) (by kernel_rfl) (by kernel_rfl) (Zc ?_ (Zc ?_ (Zc ?_ (Zc ?_ (Zc ?_ (Zc ?_ (Zc ?_ (Zc ?_ (Zc ?_ POps.nil))))))))) ?_
 exact fun θ R hd=>Zq (OD.loadAgg rfl ti64 rfl (i:=0) rfl (us:=[.int .i64 (rr),vrd,vrs,.map (some grm)]) rfl rfl) rfl
 exact fun θ R hd=>Zq (OD.move rfl rfl) rfl
 exact fun θ R hd=>Zq (OD.move rfl rfl) rfl
 exact fun θ R hd=>Zq (OD.move rfl rfl) rfl
 exact fun θ R ⟨h3d,_⟩=>Zq (OD.addI rfl rfl rfl (by omega)) rfl
 exact fun θ R ⟨h2d,h4d,_⟩=>Zq (OD.mulI rfl rfl rfl (by omega)) rfl
 exact fun θ R hd=>Zq (OD.move rfl rfl) rfl
 exact fun θ R ⟨h1d,h5d,h6d,_⟩=>Opp.plain (OG.imp (OG.call [vx,.int .i64 (k*((m:Int)+1)),vy] ent68 rfl rfl rfl rfl (by exact(listPlus_w sx (Ent.drop 1 ex.app) sy (Ent.drop 1 ey.app) (hlx) (hle)))) (by rintro v2 _ ⟨_,rfl,hs3,rfl⟩;exact⟨[v2],rfl,hs3,rfl⟩)) rfl
 exact fun θ R ⟨h0d,h7d,_⟩=>Zq (OG.call [.agg #[.int .i64 (rr),vrd,vrs,.map (some grm)],((θ 7).getD 0 undef)] ent52 rfl rfl rfl rfl (by exact(has_w srd srs (Ent.drop 2 ers.app) (Ent.drop 2 hrm.app) h7d (Ent.ints (i:=0) rfl) (hrr) (lpF_all64 h64x) (by omega) ((Ent.drop 2 htab.app))))) rfl
 intro θ hall
 obtain⟨_,_,_,_,_,_,_,h7a,_,_⟩:=hall
 refine G.at [] 0 (env':=[(1,vx),(2,vy),(3,.int .i64 (k)),(4,.pointer (some ⟨g1,0,none⟩)),(9,.int .i64 ((m:Int))),(18,.bool (fdB rr rm (lpF x (k*((m:Int)+1)) y)))]) ⟨rfl,rfl,rfl,rfl,rfl,rfl,trivial⟩ (own':=ints 3 ((θ 7).getD 0 undef) (lpF x (k*((m:Int)+1)) y)::box g1 64 [.int .i64 (rr),vrd,vrs,.map (some grm)]::own) rfl ?_
 have hs4:IsS ((θ 7).getD 0 undef):=h7a
 clear h7a
 generalize ((θ 7).getD 0 undef)=v5 at *
 show G _ _ _ [] _ _ _ _
 refine Zn (Zt ?_)
 refine GC.cond rfl (fun hc6=>?_) (fun hc6=>?_)
 have hm2:=rch_le (p:=fun(m:Nat)=>fdB rr rm (lpF x (k*(m:Int)) y)) hm hc6 hb
 refine Zk (Zt (GC.block (Zr ?_)))
 refine Zm rfl (Zd (OD.addI rfl rfl rfl (by omega)) rfl ?_)
 refine Za rfl (Zn (GE.blockN ?_))
 exact GE.again (m+1) (⟨rch_le (p:=fun(m:Nat)=>fdB rr rm (lpF x (k*(m:Int)) y)) hm hc6 hb,(rch_step (p:=fun(m:Nat)=>fdB rr rm (lpF x (k*(m:Int)) y)) (by omega) hc6).trans hr⟩) (by first | omega | (dsimp only;omega)) ⟨rfl,rfl,rfl,rfl,rfl,trivial⟩ [1] 1 rfl
 refine GC.exit (Zp (Zp (GE.hit (Zt (Zs (Zr ?_))))))
 refine Zm rfl (Za rfl (Zn (Zt (GC.ret ?_))))
 exact GE.body [] 2 (res1 rfl rfl) rfl (⟨congrArg (fun(a0:Int)=>(.int .i64 (a0):Value)) ((by rw[← hr,rch_end (by omega) hc6]:((m:Int):Int)=(rch (fun(m:Nat)=>fdB rr rm (lpF x (k*(m:Int)) y)) 40 0:Nat))),rfl⟩)
end Go.Proofs.YtbmnnbglipkidaaGreatDoor
