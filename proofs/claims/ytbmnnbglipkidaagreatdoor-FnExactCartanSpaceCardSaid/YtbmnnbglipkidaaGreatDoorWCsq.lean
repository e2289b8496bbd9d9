/-
  The coroots' lines by the second text: contracts by walks.
-/
import Derived.Test.YtbmnnbglipkidaaGreatDoorFct
import Derived.Test.YtbmnnbglipkidaaGreatDoorWIdx
import Derived.Test.YtbmnnbglipkidaaGreatDoorWLen
import Derived.Test.YtbmnnbglipkidaaGreatDoorZ20
import Derived.Test.YtbmnnbglipkidaaGreatDoorCnx
import Derived.Test.YtbmnnbglipkidaaGreatDoorOps2
import Derived.Test.YtbmnnbglipkidaaGreatDoorZ25
import Derived.Test.YtbmnnbglipkidaaGreatDoorWCor
namespace Go.Proofs.YtbmnnbglipkidaaGreatDoor
set_option maxRecDepth 100000
set_option linter.unusedVariables false
set_option linter.unusedSimpArgs false
open Go.RowKit
theorem ent59:∀ us w,(callFunc 59 us).run Tryz.prog w = .ok (.enter 59 us) w:=fun us w=>by kernel_rfl
theorem ent74:∀ us w,(callFunc 74 us).run Tryz.prog w = .ok (.enter 74 us) w:=fun us w=>by kernel_rfl
theorem basis28_w {W:World}{own:List Asn}{n:Int}{i:Int}(hn:0≤n∧n≤64)(hi:0≤i∧i<n):Spec Tryz.prog 73 [.int .i64 (n),.int .i64 (i)] W own (fun v ow=>∃ (r0:Value),v=r0∧IsS r0∧ow=ints 3 r0 (unitL n.toNat i.toNat)::own):=by
 refine Spec.enter Tryz.f73 _ Tryz.func73 rfl (n:=12) rfl rfl ?_
 refine Zs (Zr (Za rfl (Zn (Zt (Zs (Zr (Zm rfl (G.step (OG.makeInts rfl et22 rfl rfl (by omega)) rfl rfl rfl ?_))))))))
 rintro v1 _ ⟨hs2,rfl⟩
 refine Za rfl (Zn (Zt (Zs (Zr (Zm rfl (Zm rfl (Zd (OD.indexAddr rfl et22 rfl (Ent.ints (i:=0) rfl) rfl (by first | omega | (simp only[List.length_set,List.length_replicate];omega))) rfl ?_)))))))
 refine G.stepD0 (OD.storeInt rfl ti3 rfl rfl (i:=0) rfl (by first | omega | (simp only[List.length_set,List.length_replicate];omega))) rfl rfl ?_
 refine Zn (Zt (Zs (Zr (Zm rfl (Za rfl (Zn (Zt (GC.ret ?_))))))))
 exact GE.body [] 0 (res1 rfl rfl) rfl (⟨v1,rfl,hs2,congrArg (fun(l0:List Int)=>ints 3 v1 l0::own) ((unitL_set (by omega):(List.replicate (n:Int).toNat (0:Int)).set ((i:Int).toNat) (1)=unitL n.toNat i.toNat))⟩)
theorem l1Rows_w {W:World}{own:List Asn}{p:Int}{cols:Int}{vx:Value}{ux:List Value}{x:List (List Int)}(sx:IsS vx)(ex:Ent own fun w=>Sl w vx x.length 1 ux)(mx:∀ k,k<x.length→Ent own fun w=>Ints w (ux.getD k undef) (x.getD k []))(lx:ux.length=x.length)(ax:AllS ux)(hxl:x.length≤64)(hle:∀ k,k<x.length→(x.getD k []).length≤64):Spec Tryz.prog 74 [.int .i64 (p),.int .i64 (cols),vx] W own (fun v ow=>∃ (r3:Value),v = .agg #[.int .i64 (p),.int .i64 ((x.length:Nat)),.int .i64 (cols),r3]∧IsS r3∧ow=ints 3 r3 x.flatten::own):=by
 refine Spec.enter Tryz.f74 _ Tryz.func74 rfl (n:=30) rfl rfl ?_
 refine Zs (Zr (G.step (OG.alloc rfl ti51 (zs:=[.int .i64 (0),.int .i64 (0),.int .i64 (0),.slice none 0 0]) rfl) rfl rfl rfl ?_))
 rintro _ _ ⟨g1,rfl,rfl⟩
 refine Zn (Zt (Zs (Zr (Zm rfl (Zm rfl (Zd (OD.len rfl rfl et60 rfl (Ent.drop 1 ex)) rfl ?_))))))
 refine Zm rfl (G.step (OG.buildInts (xs:=[]) (is:=[]) rfl et22 rfl rfl rfl rfl rfl) rfl rfl rfl ?_)
 rintro v2 _ ⟨hs3,rfl⟩
 refine Zd (OD.build (idx:=[0,1,2,3]) (xs:=[.tmp 9,.tmp 11,.tmp 12,.tmp 13]) (vs:=[.int .i64 (p),.int .i64 ((x.length:Nat)),.int .i64 (cols),v2]) (cs:=[[.int .i64 (p)],[.int .i64 ((x.length:Nat))],[.int .i64 (cols)],[v2]]) (zs:=[.int .i64 (0),.int .i64 (0),.int .i64 (0),.slice none 0 0]) (r:=[.int .i64 (p),.int .i64 ((x.length:Nat)),.int .i64 (cols),v2]) rfl ti51 rfl rfl rfl ⟨rfl,⟨rfl,⟨rfl,⟨(one_cells (IsS.one hs3)),trivial⟩⟩⟩⟩ rfl) rfl ?_
 refine G.step (OG.alloc rfl ti51 (zs:=[.int .i64 (0),.int .i64 (0),.int .i64 (0),.slice none 0 0]) rfl) rfl rfl rfl ?_
 rintro _ _ ⟨g4,rfl,rfl⟩
 refine G.stepD0 (OD.store rfl ti51 rfl rfl (us:=[.int .i64 (p),.int .i64 ((x.length:Nat)),.int .i64 (cols),v2]) rfl rfl (allC rfl (allC rfl (allC rfl (allC (IsS.one hs3) rfl)))) (i:=0) rfl rfl) rfl rfl ?_
 refine Zn (Zt (Zs (Zs (Zr (Za rfl (Zn (Zt (GC.block ?_))))))))
 refine GC.ownEq (own':=box g4 51 [.int .i64 (p),.int .i64 ((x.length:Nat)),.int .i64 (cols),v2]::ints 3 v2 ((x.take 0).flatten)::box g1 51 [.int .i64 (0),.int .i64 (0),.int .i64 (0),.slice none 0 0]::own) (rfl) ?_
 refine GC.loop (ι:=Nat × Value) (fun⟨k,v⟩=>[(2,vx),(6,.pointer (some ⟨g1,0,none⟩)),(7,.pointer (some ⟨g4,0,none⟩)),(8,.int .i64 ((k:Int)))]) (fun⟨k,v⟩=>box g4 51 [.int .i64 (p),.int .i64 ((x.length:Nat)),.int .i64 (cols),v]::ints 3 v ((x.take k).flatten)::box g1 51 [.int .i64 (0),.int .i64 (0),.int .i64 (0),.slice none 0 0]::own) (fun⟨k,v⟩=>(k≤x.length)∧(IsS v)) (fun⟨k,v⟩=>x.length - k) (0,v2) (⟨by omega,hs3⟩) ⟨rfl,rfl,rfl,rfl,trivial⟩ [] 0 rfl ?_
 rintro⟨k,v⟩ ⟨hk,hv⟩
 have hfl:=flat_le hle k hk
 refine Zs (Zs (Zr (Zm rfl (Zm rfl (Zd (OD.len rfl rfl et60 rfl (Ent.drop 3 ex)) rfl ?_)))))
 refine Zd (OD.lss rfl rfl rfl) rfl ?_
 refine Zn (Zt ?_)
 refine GC.cond rfl (fun hc5=>?_) (fun hc5=>?_)
 replace hc5:=of_decide_eq_true hc5
 refine Zk (Zt (Zs (GC.block ?_)))
 have hlk:=hle k (by omega)
 refine GC.at [] 0 (env':=[(2,vx),(6,.pointer (some ⟨g1,0,none⟩)),(7,.pointer (some ⟨g4,0,none⟩)),(8,.int .i64 ((k:Int)))]) ⟨rfl,rfl,rfl,rfl,trivial⟩ rfl ?_
 refine GC.par (its:=[Z0 21 (.pointer (some ⟨g4,3,none⟩)),
     Z1 22 [(0,21)] v,
     Z0 23 vx,
     Z0 24 (.int .i64 ((k:Int))),
     Z1 25 [(2,23),(3,24)] (elemPtr vx 1 (k)),
     Z1 26 [(4,25)] ((ux.getD (k) undef))]) (by kernel_rfl) (by kernel_rfl) (Zc ?_ (Zc ?_ (Zc ?_ (Zc ?_ (Zc ?_ (Zc ?_ POps.nil)))))) ?_
 exact fun θ R hd=>Zq (OD.fieldAddr rfl rfl fa51_3) rfl
 exact fun θ R ⟨h0d,_⟩=>Zq (OD.load rfl ti22 rfl (i:=0) rfl rfl) rfl
 exact fun θ R hd=>Zq (OD.move rfl rfl) rfl
 exact fun θ R hd=>Zq (OD.move rfl rfl) rfl
 exact fun θ R ⟨h2d,h3d,_⟩=>Zq (OD.indexAddr rfl et60 rfl (Ent.drop 3 ex.app) rfl (by omega)) rfl
 exact fun θ R ⟨h4d,_⟩=>Zq (OD.loadElem rfl ti22 rfl (Ent.drop 3 ex.app) (by omega) rfl) rfl
 intro θ hall
 obtain⟨_,_,_,_,_,_,_⟩:=hall
 refine G.at [] 0 (env':=[(2,vx),(6,.pointer (some ⟨g1,0,none⟩)),(7,.pointer (some ⟨g4,0,none⟩)),(8,.int .i64 ((k:Int))),(22,v),(26,(ux.getD (k) undef))]) ⟨rfl,rfl,rfl,rfl,rfl,rfl,trivial⟩ (own':=box g4 51 [.int .i64 (p),.int .i64 ((x.length:Nat)),.int .i64 (cols),v]::ints 3 v ((x.take k).flatten)::box g1 51 [.int .i64 (0),.int .i64 (0),.int .i64 (0),.slice none 0 0]::own) rfl ?_
 show G _ _ _ [_,_,_] _ _ _ _
 refine G.step (OG.appendInts 1 rfl rfl et22 rfl rfl rfl (Ent.drop 3 (mx (k) (by omega))) (by first | omega | (simp;omega))) rfl rfl rfl ?_
 rintro v6 _ ⟨hs7,rfl⟩
 refine Zd (OD.fieldAddr rfl rfl fa51_3) rfl ?_
 refine G.stepD0 (OD.store rfl ti22 rfl rfl (us:=[v6]) (one_cells (IsS.one hs7)) rfl (allC (IsS.one hs7) rfl) (i:=0) rfl rfl) rfl rfl ?_
 refine Zn (GE.blockN (Zt (Zr ?_)))
 refine Zm rfl (Zd (OD.addI rfl rfl rfl (by omega)) rfl ?_)
 refine Za rfl (Zn (GE.ownEq (own':=box g4 51 [.int .i64 (p),.int .i64 ((x.length:Nat)),.int .i64 (cols),v6]::ints 3 v6 ((x.take (k+1)).flatten)::box g1 51 [.int .i64 (0),.int .i64 (0),.int .i64 (0),.slice none 0 0]::own) (by rw[← flat_next (by omega)] <;> rfl) ?_))
 exact GE.again (k+1,v6) (⟨by omega,hs7⟩) (by first | omega | (dsimp only;omega)) ⟨rfl,rfl,rfl,rfl,trivial⟩ [] 0 rfl
 replace hc5:=of_decide_eq_false hc5
 refine GC.exit (Zp (Zp (GE.hit (Zt (Zs (Zr ?_))))))
 refine Zd (OD.loadAgg rfl ti51 rfl (i:=0) rfl (us:=[.int .i64 (p),.int .i64 ((x.length:Nat)),.int .i64 (cols),v]) rfl rfl) rfl ?_
 refine G.stepD0 (OD.store rfl ti51 rfl rfl (us:=[.int .i64 (p),.int .i64 ((x.length:Nat)),.int .i64 (cols),v]) rfl rfl (allC rfl (allC rfl (allC rfl (allC (IsS.one hv) rfl)))) (i:=2) rfl rfl) rfl rfl ?_
 refine Zn (Zt (GC.ret ?_))
 exact GE.body [1] 2 (resN rfl (RVs.cons (rv_cells ti51 rfl (i:=2) rfl rfl) RVs.nil) rfl) rfl (⟨v,rfl,hv,congrArg (fun(l0:List Int)=>ints 3 v l0::own) ((flat_all (by omega):(x.take k).flatten=x.flatten))⟩)
set_option maxHeartbeats 4000000 in
theorem specCartanSpace_w {W:World}{own:List Asn}{cr:Int}{vcd:Value}{cd:List Int}{p:Int}(scd:IsS vcd)(ecd:Ent own fun w=>Ints w vcd cd)(hl0:cd.length≤1073741824):Spec Tryz.prog 29 [.agg #[.int .i64 (cr),vcd],.int .i64 (p)] W own (fun v ow=>∃ (r3:Value),v = .tuple #[.agg #[.int .i64 (csP cr cd p),.int .i64 (csr cr cd p),.int .i64 (csC cr cd p),r3],.bool (smOk cr cd p)]∧IsS r3∧ow=ints 3 r3 (csD cr cd p)::own):=by
 refine Spec.enter Tryz.f29 _ Tryz.func29 rfl (n:=58) rfl rfl ?_
 refine Zs (Zr (G.step (OG.box (cs:=[.int .i64 (cr),vcd]) rfl rfl rfl) rfl rfl rfl ?_))
 rintro _ _ ⟨g1,rfl,rfl⟩
 refine G.step (OG.alloc rfl ti51 (zs:=[.int .i64 (0),.int .i64 (0),.int .i64 (0),.slice none 0 0]) rfl) rfl rfl rfl ?_
 rintro _ _ ⟨g2,rfl,rfl⟩
 refine Za rfl (Zn (Zt (Zs (Zs ?_))))
 rcases Bool.eq_false_or_eq_true ((tyS cr cd).isSome) with hx3 | hx3
 rcases Bool.eq_false_or_eq_true (primeB p) with hx4 | hx4
 rcases Bool.eq_false_or_eq_true (decide (smN cr cd≤28)) with hx5 | hx5
 have hS:(tyS cr cd).isSome=true:=hx3
 have hcr:=(tyS_ok hS).1
 have hcd:=(tyS_ok hS).2
 have hMl:smM cr cd=(rSt cr cd).length:=rfl
 have hNl:smN cr cd=2*smM cr cd+cr.toNat:=rfl
 have hr4:=(rtOk hS).rk
 have hlo:=(rtOk hS).lo
 have hRf:(rSt cr cd).length≤30:=by have h1:=(rtOk hS).slen;have h2:=(rtOk hS).few;omega
 have hPr:primeB p=true:=hx4
 have h28:=of_decide_eq_true hx5
 have hOk:smOk cr cd p=true:=by rw[smOk,hx3,hx4,hx5] <;> rfl
 refine GC.at [] 0 (env':=[(1,.int .i64 (p)),(2,.pointer (some ⟨g1,0,none⟩)),(4,.pointer (some ⟨g2,0,none⟩))]) ⟨rfl,rfl,rfl,trivial⟩ rfl ?_
 refine GC.par (its:=[Z0 9 (.agg #[.int .i64 (cr),vcd]),
     Z1 10 [(0,9)] (.bool true),
     Z1 11 [(1,10)] (.bool false),
     Z1 12 [(2,11)] (.bool false),
     Z1 13 [(3,12)] (.int .i64 (p)),
     Z1 14 [(3,12),(4,13)] (.bool true),
     Z1 15 [(3,12),(5,14)] (.bool false),
     Z1 16 [(3,12),(6,15)] (.bool false),
     Z1 17 [(7,16)] (.bool false),
     Z1 18 [(8,17)] (.agg #[.int .i64 (cr),vcd]),
     ⟨19,[(8,17),(9,18)],[],[],[10],fun ds=>((ds.getD 0 []).getD 0 undef),fun ds=>IsS ((ds.getD 0 []).getD 0 undef)∧AllS (usOf ((ds.getD 0 []).getD 1 undef))∧(usOf ((ds.getD 0 []).getD 1 undef)).length=(rSt cr cd).length,fun ds=>[lst 22 ((ds.getD 0 []).getD 0 undef) (usOf ((ds.getD 0 []).getD 1 undef)),many (ints 3) (usOf ((ds.getD 0 []).getD 1 undef)) (rSt cr cd)]⟩,
     ⟨20,[(8,17),(10,19)],[10],[],[10],fun _ => .int .i64 (((rSt cr cd).length:Int)),fun _=>True,fun _=>[]⟩,
     ⟨21,[(8,17),(11,20)],[10],[],[10],fun _ => .int .i64 (2*((rSt cr cd).length:Int)),fun _=>True,fun _=>[]⟩,
     Z1 22 [(8,17)] (.pointer (some ⟨g1,0,none⟩)),
     Z1 23 [(8,17),(13,22)] (.int .i64 (cr)),
     ⟨24,[(8,17),(12,21),(14,23)],[10],[],[10],fun _ => .int .i64 ((2*((rSt cr cd).length:Int))+cr),fun _=>True,fun _=>[]⟩,
     ⟨25,[(8,17),(15,24)],[10],[],[10],fun _ => .bool false,fun _=>True,fun _=>[]⟩,
     ⟨26,[(8,17),(16,25)],[10],[],[10],fun _ => .bool false,fun _=>True,fun _=>[]⟩]) (by kernel_rfl) (by kernel_rfl) (Zc ?_ (Zc ?_ (Zc ?_ (Zc ?_ (Zc ?_ (Zc ?_ (Zc ?_ (Zc ?_ (Zc ?_ (Zc ?_ (Zc ?_ (Zc ?_ (Zc ?_ (Zc ?_ (Zc ?_ (Zc ?_ (Zc ?_ (Zc ?_ POps.nil)))))))))))))))))) ?_
 exact fun θ R hd=>Zq (OD.loadAgg rfl ti27 rfl (i:=1) rfl (us:=[.int .i64 (cr),vcd]) rfl rfl) rfl
 exact fun θ R ⟨h0d,_⟩=>Zq (OG.imp (K':=fun v ow=>v = .bool true∧ow=box g2 51 [.int .i64 (0),.int .i64 (0),.int .i64 (0),.slice none 0 0]::box g1 27 [.int .i64 (cr),vcd]::own++R) (OG.call [.agg #[.int .i64 (cr),vcd]] ent58 rfl rfl rfl rfl (by exact(specIsCartan_w scd (Ent.drop 2 ecd.app) (hl0)))) (by rintro _ _ ⟨rfl,rfl⟩;exact⟨congrArg Value.bool (hx3),rfl⟩)) rfl
 exact fun θ R ⟨h1d,_⟩=>Zq (OD.not rfl rfl) rfl
 exact fun θ R ⟨h2d,_⟩=>Zq (OD.move rfl rfl) rfl
 exact fun θ R ⟨h3d,_⟩=>Zo (OD.move rfl rfl) rfl rfl rfl rfl trivial rfl
 exact fun θ R ⟨h3d,h4d,_⟩=>Zo (OG.imp (K':=fun v ow=>v = .bool true∧ow=box g2 51 [.int .i64 (0),.int .i64 (0),.int .i64 (0),.slice none 0 0]::box g1 27 [.int .i64 (cr),vcd]::own++R) (OG.call [.int .i64 (p)] ent59 rfl rfl rfl rfl (by exact specIsPrime_s)) (by rintro _ _ ⟨rfl,rfl⟩;exact⟨congrArg Value.bool (hx4),rfl⟩)) rfl rfl rfl rfl trivial rfl
 exact fun θ R ⟨h3d,h5d,_⟩=>Zo (OD.not rfl rfl) rfl rfl rfl rfl trivial rfl
 exact fun θ R ⟨h3d,h6d,_⟩=>Zq (OD.pickF rfl rfl rfl) rfl
 exact fun θ R ⟨h7d,_⟩=>Zq (OD.move rfl rfl) rfl
 exact fun θ R ⟨h8d,_⟩=>Zo (OD.loadAgg rfl ti27 rfl (i:=1) rfl (us:=[.int .i64 (cr),vcd]) rfl rfl) rfl rfl rfl rfl trivial rfl
 exact fun θ R ⟨h8d,h9d,_⟩=>Opp.on (OG.imp (OG.call [.agg #[.int .i64 (cr),vcd]] ent39 rfl rfl rfl rfl (by exact(l5Roots_w scd (Ent.drop 2 ecd.app) (hcr) (hcd) (hS)))) (by rintro v6 _ ⟨_,u7,rfl,hs8,hs9,hs10,rfl⟩;exact⟨[v6,.agg u7.toArray],rfl,⟨hs8,hs9,hs10⟩,rfl⟩)) rfl rfl rfl
 exact fun θ R ⟨h8d,h10d,_⟩=>Zo (OD.eqv (OD.len rfl rfl et60 rfl (Ent.lst (i:=0) rfl)) (congrArg (Value.int .i64) ((by have h9:(usOf ((θ 10).getD 1 undef)).length=(rSt cr cd).length:=h10d.2.2;omega):(((usOf ((θ 10).getD 1 undef)).length:Nat):Int)=(((rSt cr cd).length:Int))))) rfl rfl rfl rfl trivial rfl
 exact fun θ R ⟨h8d,h11d,_⟩=>Zo (OD.mulI rfl rfl rfl (by omega)) rfl rfl rfl rfl trivial rfl
 exact fun θ R ⟨h8d,_⟩=>Zo (OD.fieldAddr rfl rfl fa27_0) rfl rfl rfl rfl trivial rfl
 exact fun θ R ⟨h8d,h13d,_⟩=>Zo (OD.load rfl ti3 rfl (i:=1) rfl rfl) rfl rfl rfl rfl trivial rfl
 exact fun θ R ⟨h8d,h12d,h14d,_⟩=>Zo (OD.addI rfl rfl rfl (by omega)) rfl rfl rfl rfl trivial rfl
 exact fun θ R ⟨h8d,h15d,_⟩=>Zo (OD.eqv (OD.gtr rfl rfl rfl) (congrArg Value.bool ((decide_eq_false (by omega)):_=false))) rfl rfl rfl rfl trivial rfl
 exact fun θ R ⟨h8d,h16d,_⟩=>Zq (OD.pickF rfl rfl rfl) rfl
 intro θ hall
 obtain⟨_,_,_,_,_,_,_,_,_,_,h10a,_,_,_,_,_,_,_,_⟩:=hall
 refine G.at [] 0 (env':=[(1,.int .i64 (p)),(2,.pointer (some ⟨g1,0,none⟩)),(4,.pointer (some ⟨g2,0,none⟩)),(26,.bool false)]) ⟨rfl,rfl,rfl,rfl,trivial⟩ (own':=lst 22 ((θ 10).getD 0 undef) (usOf ((θ 10).getD 1 undef))::many (ints 3) (usOf ((θ 10).getD 1 undef)) (rSt cr cd)::box g2 51 [.int .i64 (0),.int .i64 (0),.int .i64 (0),.slice none 0 0]::box g1 27 [.int .i64 (cr),vcd]::own) rfl ?_
 have hs11:IsS ((θ 10).getD 0 undef):=h10a.1
 have hs12:AllS (usOf ((θ 10).getD 1 undef)):=h10a.2.1
 have hs13:(usOf ((θ 10).getD 1 undef)).length=(rSt cr cd).length:=h10a.2.2
 clear h10a
 generalize ((θ 10).getD 0 undef)=v14 at *
 generalize (usOf ((θ 10).getD 1 undef))=u15 at *
 show G _ _ _ [] _ _ _ _
 refine Zn (Zt (GC.condF rfl (Zk (Zt (Zs (Zr ?_))))))
 refine Zd (OD.loadAgg rfl ti27 rfl (i:=3) rfl (us:=[.int .i64 (cr),vcd]) rfl rfl) rfl ?_
 refine G.step (OG.call [.agg #[.int .i64 (cr),vcd]] ent39 rfl rfl rfl rfl (by exact(l5Roots_w scd (Ent.drop 4 ecd) (hcr) (hcd) (hS)))) rfl rfl rfl ?_
 rintro v16 _ ⟨_,u17,rfl,hs18,hs19,hs20,rfl⟩
 refine Zd (OD.len rfl rfl et60 rfl (Ent.lst (i:=0) rfl)) rfl ?_
 refine Za rfl (Zn (Zt (Zs (Zr (G.step (OG.buildLst (xs:=[]) (us:=[]) rfl et60 rfl rfl rfl rfl rfl) rfl rfl rfl ?_)))))
 rintro v21 _ ⟨hs22,rfl⟩
 refine Za rfl (Zn (Zt (Zs (Zs (Zr (Za rfl (Zn (Zt (GC.block ?_)))))))))
 refine GC.many0 (ints 3) ?_
 refine GC.loop (ι:=Nat × List Value × Value) (fun⟨k,us,v⟩=>[(1,.int .i64 (p)),(2,.pointer (some ⟨g1,0,none⟩)),(4,.pointer (some ⟨g2,0,none⟩)),(6,.int .i64 ((u17.length:Nat))),(7,v),(8,.int .i64 ((k:Int)))]) (fun⟨k,us,v⟩=>many (ints 3) us (csR cr cd k)::lst 22 v us::lst 22 v16 u17::many (ints 3) u17 (rSt cr cd)::lst 22 v14 u15::many (ints 3) u15 (rSt cr cd)::box g2 51 [.int .i64 (0),.int .i64 (0),.int .i64 (0),.slice none 0 0]::box g1 27 [.int .i64 (cr),vcd]::own) (fun⟨k,us,v⟩=>(k≤cr.toNat)∧(AllS us)∧(us.length=k)∧(IsS v)) (fun⟨k,us,v⟩=>cr.toNat - k) (0,[],v21) (⟨by omega,AllS.nil,rfl,hs22⟩) ⟨rfl,rfl,rfl,rfl,rfl,rfl,trivial⟩ [] 0 rfl ?_
 rintro⟨k,us,v⟩ ⟨hk,ha,hul,hv⟩
 have hxl:(csR cr cd k).length=k:=csR_len
 refine Zs (Zs (Zr (Zm rfl (Zd (OD.fieldAddr rfl rfl fa27_0) rfl ?_))))
 refine Zd (OD.load rfl ti3 rfl (i:=7) rfl rfl) rfl ?_
 refine Zd (OD.lss rfl rfl rfl) rfl ?_
 refine Zn (Zt ?_)
 refine GC.cond rfl (fun hc23=>?_) (fun hc23=>?_)
 replace hc23:=of_decide_eq_true hc23
 refine Zk (Zt (Zs (GC.block (Zr ?_))))
 refine Zm rfl (Zm rfl (Zd (OD.mulI rfl rfl rfl (by omega)) rfl ?_))
 refine Zd (OD.fieldAddr rfl rfl fa27_0) rfl ?_
 refine Zd (OD.load rfl ti3 rfl (i:=7) rfl rfl) rfl ?_
 refine Zd (OD.addI rfl rfl rfl (by omega)) rfl ?_
 refine Zm rfl (Zm rfl (Zd (OD.addI rfl rfl rfl (by omega)) rfl ?_))
 refine G.step (OG.call [.int .i64 ((2*(u17.length:Nat))+cr),.int .i64 ((u17.length:Nat)+(k:Int))] ent73 rfl rfl rfl rfl (by exact(basis28_w (by omega) (by omega)))) rfl rfl rfl ?_
 rintro v24 _ ⟨_,rfl,hs25,rfl⟩
 refine G.step (OG.buildLst (xs:=[.tmp 47]) (us:=[v24]) rfl et60 rfl rfl rfl (allC (IsS.one hs25) rfl) rfl) rfl rfl rfl ?_
 rintro v26 _ ⟨hs27,rfl⟩
 refine G.step (OG.appendLst 3 rfl rfl et60 rfl rfl rfl (Ent.lst (i:=0) rfl) (List.all_eq_true.2 fun u hu=>by simpa using(AllS.snoc AllS.nil hs25).one u hu) (by simp[maxLen] <;> omega)) rfl rfl rfl ?_
 rintro v28 _ ⟨hs29,rfl⟩
 refine Za rfl (Zn (GE.blockN (Zt (Zr ?_))))
 refine Zm rfl (Zd (OD.addI rfl rfl rfl (by omega)) rfl ?_)
 refine Za rfl (Zn ?_)
 refine GE.at [1,1,0,0,0,0,0,0,0,0] 0 (env':=[(1,.int .i64 (p)),(2,.pointer (some ⟨g1,0,none⟩)),(4,.pointer (some ⟨g2,0,none⟩)),(6,.int .i64 ((u17.length:Nat))),(32,.int .i64 ((k:Int))),(33,.pointer (some ⟨g1,0,none⟩)),(34,.int .i64 (cr)),(35,.bool (decide ((k:Int)<cr))),(38,v),(39,.int .i64 ((u17.length:Nat))),(40,.int .i64 (2*(u17.length:Nat))),(41,.pointer (some ⟨g1,0,none⟩)),(42,.int .i64 (cr)),(43,.int .i64 ((2*(u17.length:Nat))+cr)),(44,.int .i64 ((u17.length:Nat))),(45,.int .i64 ((k:Int))),(46,.int .i64 ((u17.length:Nat)+(k:Int))),(47,v24),(48,v26),(49,v28),(7,v28),(36,.int .i64 ((k:Int))),(37,.int .i64 ((k:Int)+1)),(8,.int .i64 ((k:Int)+1))]) ⟨rfl,rfl,rfl,rfl,rfl,rfl,rfl,rfl,rfl,rfl,rfl,rfl,rfl,rfl,rfl,rfl,rfl,rfl,rfl,rfl,rfl,rfl,rfl,rfl,trivial⟩ (own':=ints 3 v24 (unitL ((2*(u17.length:Nat))+cr).toNat ((u17.length:Nat)+(k:Int)).toNat)::many (ints 3) us (csR cr cd k)::lst 22 v26 [v24]::lst 22 v28 (us++[v24])::lst 22 v16 u17::many (ints 3) u17 (rSt cr cd)::lst 22 v14 u15::many (ints 3) u15 (rSt cr cd)::box g2 51 [.int .i64 (0),.int .i64 (0),.int .i64 (0),.slice none 0 0]::box g1 27 [.int .i64 (cr),vcd]::own) rfl ?_
 refine GE.manyPush (by omega) ?_
 refine GE.ownEq (own':=many (ints 3) (us++[v24]) (csR cr cd (k+1))::lst 22 v26 [v24]::lst 22 v28 (us++[v24])::lst 22 v16 u17::many (ints 3) u17 (rSt cr cd)::lst 22 v14 u15::many (ints 3) u15 (rSt cr cd)::box g2 51 [.int .i64 (0),.int .i64 (0),.int .i64 (0),.slice none 0 0]::box g1 27 [.int .i64 (cr),vcd]::own) (by rw[csR_next (by omega) (by omega)]) ?_
 exact GE.again (k+1,us++[v24],v28) (⟨by omega,(ha.snoc hs25),by rw[List.length_append,List.length_singleton];omega,hs29⟩) (by first | omega | (dsimp only;omega)) ⟨rfl,rfl,rfl,rfl,rfl,rfl,trivial⟩ [0,1,1,1,1,1,1,1] 1 rfl
 replace hc23:=of_decide_eq_false hc23
 refine GC.exit (Zp (Zp (GE.hit (Zt (Zs (Zr ?_))))))
 refine Zm rfl (Zm rfl (Zd (OD.mulI rfl rfl rfl (by omega)) rfl ?_))
 refine Zd (OD.fieldAddr rfl rfl fa27_0) rfl ?_
 refine Zd (OD.load rfl ti3 rfl (i:=7) rfl rfl) rfl ?_
 refine Zd (OD.addI rfl rfl rfl (by omega)) rfl ?_
 refine Zm rfl (G.step (OG.call [.int .i64 (p),.int .i64 ((2*(u17.length:Nat))+cr),v] ent74 rfl rfl rfl rfl (by exact(l1Rows_w hv (Ent.len (Ent.lst (i:=1) rfl) (by omega)) (fun k hk=>Ent.manyInts (i:=0) (k:=k) rfl ⟨by omega,hk⟩) (by omega) ha (by rw[csR_len];omega) (csR_le h28)))) rfl rfl rfl ?_)
 rintro _ _ ⟨v30,rfl,hs31,rfl⟩
 refine G.stepD0 (OD.store rfl ti51 rfl rfl (us:=[.int .i64 (p),.int .i64 (((csR cr cd k).length:Nat)),.int .i64 ((2*(u17.length:Nat))+cr),v30]) rfl rfl (allC rfl (allC rfl (allC rfl (allC (IsS.one hs31) rfl)))) (i:=7) rfl rfl) rfl rfl ?_
 refine Za rfl (Zn (Zt (GC.ret ?_)))
 exact GE.body [0] 8 (resN rfl (RVs.cons (rv_cells ti51 rfl (i:=7) rfl rfl) (RVs.cons (rv_tmp rfl) RVs.nil)) rfl) rfl (⟨v30,congr (congr (congr (congrArg (fun(a0:Int) (a1:Int) (a2:Int) (a4:Bool)=>(.tuple #[.agg #[.int .i64 (a0),.int .i64 (a1),.int .i64 (a2),v30],.bool (a4)]:Value)) ((by rw[csP,hOk] <;> rfl:(p:Int)=csP cr cd p))) ((by rw[csr,hOk];first | rfl | (simp only[if_true,csR_len];omega):(((csR cr cd k).length:Nat):Int)=csr cr cd p))) ((by rw[csC,hOk];first | rfl | (simp only[if_true];omega):((2*(u17.length:Nat))+cr:Int)=csC cr cd p))) ((hOk.symm:(true:Bool)=smOk cr cd p)),hs31,congrArg (fun(l0:List Int)=>ints 3 v30 l0::own) ((by rw[csD,hOk];first | rfl | (rw[if_pos rfl,show k=cr.toNat by omega]):(csR cr cd k).flatten=csD cr cd p))⟩)
 have hS:(tyS cr cd).isSome=true:=hx3
 have hcr:=(tyS_ok hS).1
 have hcd:=(tyS_ok hS).2
 have hMl:smM cr cd=(rSt cr cd).length:=rfl
 have hNl:smN cr cd=2*smM cr cd+cr.toNat:=rfl
 have hr4:=(rtOk hS).rk
 have hlo:=(rtOk hS).lo
 have hRf:(rSt cr cd).length≤30:=by have h1:=(rtOk hS).slen;have h2:=(rtOk hS).few;omega
 have hPr:primeB p=true:=hx4
 have h28:=of_decide_eq_false hx5
 have hOk:smOk cr cd p=false:=by rw[smOk,hx3,hx4,hx5] <;> rfl
 refine GC.at [] 0 (env':=[(1,.int .i64 (p)),(2,.pointer (some ⟨g1,0,none⟩)),(4,.pointer (some ⟨g2,0,none⟩))]) ⟨rfl,rfl,rfl,trivial⟩ rfl ?_
 refine GC.par (its:=[Z0 9 (.agg #[.int .i64 (cr),vcd]),
     Z1 10 [(0,9)] (.bool true),
     Z1 11 [(1,10)] (.bool false),
     Z1 12 [(2,11)] (.bool false),
     Z1 13 [(3,12)] (.int .i64 (p)),
     Z1 14 [(3,12),(4,13)] (.bool true),
     Z1 15 [(3,12),(5,14)] (.bool false),
     Z1 16 [(3,12),(6,15)] (.bool false),
     Z1 17 [(7,16)] (.bool false),
     Z1 18 [(8,17)] (.agg #[.int .i64 (cr),vcd]),
     ⟨19,[(8,17),(9,18)],[],[],[10],fun ds=>((ds.getD 0 []).getD 0 undef),fun ds=>IsS ((ds.getD 0 []).getD 0 undef)∧AllS (usOf ((ds.getD 0 []).getD 1 undef))∧(usOf ((ds.getD 0 []).getD 1 undef)).length=(rSt cr cd).length,fun ds=>[lst 22 ((ds.getD 0 []).getD 0 undef) (usOf ((ds.getD 0 []).getD 1 undef)),many (ints 3) (usOf ((ds.getD 0 []).getD 1 undef)) (rSt cr cd)]⟩,
     ⟨20,[(8,17),(10,19)],[10],[],[10],fun _ => .int .i64 (((rSt cr cd).length:Int)),fun _=>True,fun _=>[]⟩,
     ⟨21,[(8,17),(11,20)],[10],[],[10],fun _ => .int .i64 (2*((rSt cr cd).length:Int)),fun _=>True,fun _=>[]⟩,
     Z1 22 [(8,17)] (.pointer (some ⟨g1,0,none⟩)),
     Z1 23 [(8,17),(13,22)] (.int .i64 (cr)),
     ⟨24,[(8,17),(12,21),(14,23)],[10],[],[10],fun _ => .int .i64 ((2*((rSt cr cd).length:Int))+cr),fun _=>True,fun _=>[]⟩,
     ⟨25,[(8,17),(15,24)],[10],[],[10],fun _ => .bool true,fun _=>True,fun _=>[]⟩,
     ⟨26,[(8,17),(16,25)],[10],[],[10],fun _ => .bool true,fun _=>True,fun _=>[]⟩]) (by kernel_rfl) (by kernel_rfl) (Zc ?_ (Zc ?_ (Zc ?_ (Zc ?_ (Zc ?_ (Zc ?_ (Zc ?_ (Zc ?_ (Zc ?_ (Zc ?_ (Zc ?_ (Zc ?_ (Zc ?_ (Zc ?_ (Zc ?_ (Zc ?_ (Zc ?_ (Zc ?_ POps.nil)))))))))))))))))) ?_
 exact fun θ R hd=>Zq (OD.loadAgg rfl ti27 rfl (i:=1) rfl (us:=[.int .i64 (cr),vcd]) rfl rfl) rfl
 exact fun θ R ⟨h0d,_⟩=>Zq (OG.imp (K':=fun v ow=>v = .bool true∧ow=box g2 51 [.int .i64 (0),.int .i64 (0),.int .i64 (0),.slice none 0 0]::box g1 27 [.int .i64 (cr),vcd]::own++R) (OG.call [.agg #[.int .i64 (cr),vcd]] ent58 rfl rfl rfl rfl (by exact(specIsCartan_w scd (Ent.drop 2 ecd.app) (hl0)))) (by rintro _ _ ⟨rfl,rfl⟩;exact⟨congrArg Value.bool (hx3),rfl⟩)) rfl
 exact fun θ R ⟨h1d,_⟩=>Zq (OD.not rfl rfl) rfl
 exact fun θ R ⟨h2d,_⟩=>Zq (OD.move rfl rfl) rfl
 exact fun θ R ⟨h3d,_⟩=>Zo (OD.move rfl rfl) rfl rfl rfl rfl trivial rfl
 exact fun θ R ⟨h3d,h4d,_⟩=>Zo (OG.imp (K':=fun v ow=>v = .bool true∧ow=box g2 51 [.int .i64 (0),.int .i64 (0),.int .i64 (0),.slice none 0 0]::box g1 27 [.int .i64 (cr),vcd]::own++R) (OG.call [.int .i64 (p)] ent59 rfl rfl rfl rfl (by exact specIsPrime_s)) (by rintro _ _ ⟨rfl,rfl⟩;exact⟨congrArg Value.bool (hx4),rfl⟩)) rfl rfl rfl rfl trivial rfl
 exact fun θ R ⟨h3d,h5d,_⟩=>Zo (OD.not rfl rfl) rfl rfl rfl rfl trivial rfl
 exact fun θ R ⟨h3d,h6d,_⟩=>Zq (OD.pickF rfl rfl rfl) rfl
 exact fun θ R ⟨h7d,_⟩=>Zq (OD.move rfl rfl) rfl
 exact fun θ R ⟨h8d,_⟩=>Zo (OD.loadAgg rfl ti27 rfl (i:=1) rfl (us:=[.int .i64 (cr),vcd]) rfl rfl) rfl rfl rfl rfl trivial rfl
 exact fun θ R ⟨h8d,h9d,_⟩=>Opp.on (OG.imp (OG.call [.agg #[.int .i64 (cr),vcd]] ent39 rfl rfl rfl rfl (by exact(l5Roots_w scd (Ent.drop 2 ecd.app) (hcr) (hcd) (hS)))) (by rintro v32 _ ⟨_,u33,rfl,hs34,hs35,hs36,rfl⟩;exact⟨[v32,.agg u33.toArray],rfl,⟨hs34,hs35,hs36⟩,rfl⟩)) rfl rfl rfl
 exact fun θ R ⟨h8d,h10d,_⟩=>Zo (OD.eqv (OD.len rfl rfl et60 rfl (Ent.lst (i:=0) rfl)) (congrArg (Value.int .i64) ((by have h9:(usOf ((θ 10).getD 1 undef)).length=(rSt cr cd).length:=h10d.2.2;omega):(((usOf ((θ 10).getD 1 undef)).length:Nat):Int)=(((rSt cr cd).length:Int))))) rfl rfl rfl rfl trivial rfl
 exact fun θ R ⟨h8d,h11d,_⟩=>Zo (OD.mulI rfl rfl rfl (by omega)) rfl rfl rfl rfl trivial rfl
 exact fun θ R ⟨h8d,_⟩=>Zo (OD.fieldAddr rfl rfl fa27_0) rfl rfl rfl rfl trivial rfl
 exact fun θ R ⟨h8d,h13d,_⟩=>Zo (OD.load rfl ti3 rfl (i:=1) rfl rfl) rfl rfl rfl rfl trivial rfl
 exact fun θ R ⟨h8d,h12d,h14d,_⟩=>Zo (OD.addI rfl rfl rfl (by omega)) rfl rfl rfl rfl trivial rfl
 exact fun θ R ⟨h8d,h15d,_⟩=>Zo (OD.eqv (OD.gtr rfl rfl rfl) (congrArg Value.bool ((decide_eq_true (by omega)):_=true))) rfl rfl rfl rfl trivial rfl
 exact fun θ R ⟨h8d,h16d,_⟩=>Zq (OD.pickF rfl rfl rfl) rfl
 intro θ hall
 obtain⟨_,_,_,_,_,_,_,_,_,_,h10a,_,_,_,_,_,_,_,_⟩:=hall
 refine G.at [] 0 (env':=[(1,.int .i64 (p)),(2,.pointer (some ⟨g1,0,none⟩)),(4,.pointer (some ⟨g2,0,none⟩)),(26,.bool true)]) ⟨rfl,rfl,rfl,rfl,trivial⟩ (own':=lst 22 ((θ 10).getD 0 undef) (usOf ((θ 10).getD 1 undef))::many (ints 3) (usOf ((θ 10).getD 1 undef)) (rSt cr cd)::box g2 51 [.int .i64 (0),.int .i64 (0),.int .i64 (0),.slice none 0 0]::box g1 27 [.int .i64 (cr),vcd]::own) rfl ?_
 have hs37:IsS ((θ 10).getD 0 undef):=h10a.1
 have hs38:AllS (usOf ((θ 10).getD 1 undef)):=h10a.2.1
 have hs39:(usOf ((θ 10).getD 1 undef)).length=(rSt cr cd).length:=h10a.2.2
 clear h10a
 generalize ((θ 10).getD 0 undef)=v40 at *
 generalize (usOf ((θ 10).getD 1 undef))=u41 at *
 show G _ _ _ [] _ _ _ _
 refine Zn (Zt (GC.condT rfl (Zs (Zr ?_))))
 refine Zd (OD.build (idx:=[]) (xs:=[]) (vs:=[]) (cs:=[]) (zs:=[.int .i64 (0),.int .i64 (0),.int .i64 (0),.slice none 0 0]) (r:=[.int .i64 (0),.int .i64 (0),.int .i64 (0),.slice none 0 0]) rfl ti51 rfl rfl rfl trivial rfl) rfl ?_
 refine G.stepD0 (OD.store rfl ti51 rfl rfl (us:=[.int .i64 (0),.int .i64 (0),.int .i64 (0),.slice none 0 0]) rfl rfl rfl (i:=2) rfl rfl) rfl rfl ?_
 refine Za rfl (Zn (Zt (GC.ret (GE.passR ?_))))
 refine GE.nilInts 3 ?_
 exact GE.body [0] 4 (resN rfl (RVs.cons (rv_cells ti51 rfl (i:=3) rfl rfl) (RVs.cons (rv_tmp rfl) RVs.nil)) rfl) rfl (⟨(.slice none 0 0),congr (congr (congr (congrArg (fun(a0:Int) (a1:Int) (a2:Int) (a4:Bool)=>(.tuple #[.agg #[.int .i64 (a0),.int .i64 (a1),.int .i64 (a2),(.slice none 0 0)],.bool (a4)]:Value)) ((by rw[csP,hOk] <;> rfl:(0:Int)=csP cr cd p))) ((by rw[csr,hOk];first | rfl | (simp only[if_true,csR_len];omega):(0:Int)=csr cr cd p))) ((by rw[csC,hOk];first | rfl | (simp only[if_true];omega):(0:Int)=csC cr cd p))) ((hOk.symm:(false:Bool)=smOk cr cd p)),IsS.nil,congrArg (fun(l0:List Int)=>ints 3 (.slice none 0 0) l0::own) ((by rw[csD,hOk];first | rfl | (rw[if_pos rfl,show k=cr.toNat by omega]) : []=csD cr cd p))⟩)
 have hS:(tyS cr cd).isSome=true:=hx3
 have hcr:=(tyS_ok hS).1
 have hcd:=(tyS_ok hS).2
 have hMl:smM cr cd=(rSt cr cd).length:=rfl
 have hNl:smN cr cd=2*smM cr cd+cr.toNat:=rfl
 have hr4:=(rtOk hS).rk
 have hlo:=(rtOk hS).lo
 have hRf:(rSt cr cd).length≤30:=by have h1:=(rtOk hS).slen;have h2:=(rtOk hS).few;omega
 have hOk:smOk cr cd p=false:=by simp[smOk,hx3,hx4]
 refine GC.at [] 0 (env':=[(1,.int .i64 (p)),(2,.pointer (some ⟨g1,0,none⟩)),(4,.pointer (some ⟨g2,0,none⟩))]) ⟨rfl,rfl,rfl,trivial⟩ rfl ?_
 refine GC.par (its:=[Z0 9 (.agg #[.int .i64 (cr),vcd]),
     Z1 10 [(0,9)] (.bool true),
     Z1 11 [(1,10)] (.bool false),
     Z1 12 [(2,11)] (.bool false),
     Z1 13 [(3,12)] (.int .i64 (p)),
     Z1 14 [(3,12),(4,13)] (.bool false),
     Z1 15 [(3,12),(5,14)] (.bool true),
     Z1 16 [(3,12),(6,15)] (.bool true),
     Z1 17 [(7,16)] (.bool true),
     Z1 18 [(8,17)] undef,
     Z1 19 [(8,17),(9,18)] undef,
     Z1 20 [(8,17),(10,19)] undef,
     Z1 21 [(8,17),(11,20)] undef,
     Z1 22 [(8,17)] undef,
     Z1 23 [(8,17),(13,22)] undef,
     Z1 24 [(8,17),(12,21),(14,23)] undef,
     Z1 25 [(8,17),(15,24)] undef,
     Z1 26 [(8,17),(16,25)] (.bool true)]) (by kernel_rfl) (by kernel_rfl) (Zc ?_ (Zc ?_ (Zc ?_ (Zc ?_ (Zc ?_ (Zc ?_ (Zc ?_ (Zc ?_ (Zc ?_ (Zc ?_ (Zc ?_ (Zc ?_ (Zc ?_ (Zc ?_ (Zc ?_ (Zc ?_ (Zc ?_ (Zc ?_ POps.nil)))))))))))))))))) ?_
 exact fun θ R hd=>Zq (OD.loadAgg rfl ti27 rfl (i:=1) rfl (us:=[.int .i64 (cr),vcd]) rfl rfl) rfl
 exact fun θ R ⟨h0d,_⟩=>Zq (OG.imp (K':=fun v ow=>v = .bool true∧ow=box g2 51 [.int .i64 (0),.int .i64 (0),.int .i64 (0),.slice none 0 0]::box g1 27 [.int .i64 (cr),vcd]::own++R) (OG.call [.agg #[.int .i64 (cr),vcd]] ent58 rfl rfl rfl rfl (by exact(specIsCartan_w scd (Ent.drop 2 ecd.app) (hl0)))) (by rintro _ _ ⟨rfl,rfl⟩;exact⟨congrArg Value.bool (hx3),rfl⟩)) rfl
 exact fun θ R ⟨h1d,_⟩=>Zq (OD.not rfl rfl) rfl
 exact fun θ R ⟨h2d,_⟩=>Zq (OD.move rfl rfl) rfl
 exact fun θ R ⟨h3d,_⟩=>Zo (OD.move rfl rfl) rfl rfl rfl rfl trivial rfl
 exact fun θ R ⟨h3d,h4d,_⟩=>Zo (OG.imp (K':=fun v ow=>v = .bool false∧ow=box g2 51 [.int .i64 (0),.int .i64 (0),.int .i64 (0),.slice none 0 0]::box g1 27 [.int .i64 (cr),vcd]::own++R) (OG.call [.int .i64 (p)] ent59 rfl rfl rfl rfl (by exact specIsPrime_s)) (by rintro _ _ ⟨rfl,rfl⟩;exact⟨congrArg Value.bool (hx4),rfl⟩)) rfl rfl rfl rfl trivial rfl
 exact fun θ R ⟨h3d,h5d,_⟩=>Zo (OD.not rfl rfl) rfl rfl rfl rfl trivial rfl
 exact fun θ R ⟨h3d,h6d,_⟩=>Zq (OD.pickF rfl rfl rfl) rfl
 exact fun θ R ⟨h7d,_⟩=>Zq (OD.move rfl rfl) rfl
 exact fun θ R ⟨h8d,_⟩=>Opp.off ⟨[],rfl,trivial,rfl⟩ rfl rfl rfl rfl
 exact fun θ R ⟨h8d,h9d,_⟩=>Opp.off ⟨[],rfl,trivial,rfl⟩ rfl rfl rfl rfl
 exact fun θ R ⟨h8d,h10d,_⟩=>Opp.off ⟨[],rfl,trivial,rfl⟩ rfl rfl rfl rfl
 exact fun θ R ⟨h8d,h11d,_⟩=>Opp.off ⟨[],rfl,trivial,rfl⟩ rfl rfl rfl rfl
 exact fun θ R ⟨h8d,_⟩=>Opp.off ⟨[],rfl,trivial,rfl⟩ rfl rfl rfl rfl
 exact fun θ R ⟨h8d,h13d,_⟩=>Opp.off ⟨[],rfl,trivial,rfl⟩ rfl rfl rfl rfl
 exact fun θ R ⟨h8d,h12d,h14d,_⟩=>Opp.off ⟨[],rfl,trivial,rfl⟩ rfl rfl rfl rfl
 exact fun θ R ⟨h8d,h15d,_⟩=>Opp.off ⟨[],rfl,trivial,rfl⟩ rfl rfl rfl rfl
 exact fun θ R ⟨h8d,h16d,_⟩=>Zq (OD.pickT rfl rfl rfl) rfl
 intro θ hall
 obtain⟨_,_,_,_,_,_,_,_,_,_,_,_,_,_,_,_,_,_,_⟩:=hall
 refine G.at [] 0 (env':=[(1,.int .i64 (p)),(2,.pointer (some ⟨g1,0,none⟩)),(4,.pointer (some ⟨g2,0,none⟩)),(26,.bool true)]) ⟨rfl,rfl,rfl,rfl,trivial⟩ (own':=box g2 51 [.int .i64 (0),.int .i64 (0),.int .i64 (0),.slice none 0 0]::box g1 27 [.int .i64 (cr),vcd]::own) rfl ?_
 show G _ _ _ [] _ _ _ _
 refine Zn (Zt (GC.condT rfl (Zs (Zr ?_))))
 refine Zd (OD.build (idx:=[]) (xs:=[]) (vs:=[]) (cs:=[]) (zs:=[.int .i64 (0),.int .i64 (0),.int .i64 (0),.slice none 0 0]) (r:=[.int .i64 (0),.int .i64 (0),.int .i64 (0),.slice none 0 0]) rfl ti51 rfl rfl rfl trivial rfl) rfl ?_
 refine G.stepD0 (OD.store rfl ti51 rfl rfl (us:=[.int .i64 (0),.int .i64 (0),.int .i64 (0),.slice none 0 0]) rfl rfl rfl (i:=0) rfl rfl) rfl rfl ?_
 refine Za rfl (Zn (Zt (GC.ret (GE.passR ?_))))
 refine GE.nilInts 3 ?_
 exact GE.body [0] 2 (resN rfl (RVs.cons (rv_cells ti51 rfl (i:=1) rfl rfl) (RVs.cons (rv_tmp rfl) RVs.nil)) rfl) rfl (⟨(.slice none 0 0),congr (congr (congr (congrArg (fun(a0:Int) (a1:Int) (a2:Int) (a4:Bool)=>(.tuple #[.agg #[.int .i64 (a0),.int .i64 (a1),.int .i64 (a2),(.slice none 0 0)],.bool (a4)]:Value)) ((by rw[csP,hOk] <;> rfl:(0:Int)=csP cr cd p))) ((by rw[csr,hOk];first | rfl | (simp only[if_true,csR_len];omega):(0:Int)=csr cr cd p))) ((by rw[csC,hOk];first | rfl | (simp only[if_true];omega):(0:Int)=csC cr cd p))) ((hOk.symm:(false:Bool)=smOk cr cd p)),IsS.nil,congrArg (fun(l0:List Int)=>ints 3 (.slice none 0 0) l0::own) ((by rw[csD,hOk];first | rfl | (rw[if_pos rfl,show k=cr.toNat by omega]) : []=csD cr cd p))⟩)
 have hOk:smOk cr cd p=false:=by simp[smOk,hx3]
 refine GC.at [] 0 (env':=[(1,.int .i64 (p)),(2,.pointer (some ⟨g1,0,none⟩)),(4,.pointer (some ⟨g2,0,none⟩))]) ⟨rfl,rfl,rfl,trivial⟩ rfl ?_
 refine GC.par (its:=[Z0 9 (.agg #[.int .i64 (cr),vcd]),
     Z1 10 [(0,9)] (.bool false),
     Z1 11 [(1,10)] (.bool true),
     Z1 12 [(2,11)] (.bool true),
     Z1 13 [(3,12)] undef,
     Z1 14 [(3,12),(4,13)] undef,
     Z1 15 [(3,12),(5,14)] undef,
     Z1 16 [(3,12),(6,15)] (.bool true),
     Z1 17 [(7,16)] (.bool true),
     Z1 18 [(8,17)] undef,
     Z1 19 [(8,17),(9,18)] undef,
     Z1 20 [(8,17),(10,19)] undef,
     Z1 21 [(8,17),(11,20)] undef,
     Z1 22 [(8,17)] undef,
     Z1 23 [(8,17),(13,22)] undef,
     Z1 24 [(8,17),(12,21),(14,23)] undef,
     Z1 25 [(8,17),(15,24)] undef,
     Z1 26 [(8,17),(16,25)] (.bool true)]) (by kernel_rfl) (by kernel_rfl) (Zc ?_ (Zc ?_ (Zc ?_ (Zc ?_ (Zc ?_ (Zc ?_ (Zc ?_ (Zc ?_ (Zc ?_ (Zc ?_ (Zc ?_ (Zc ?_ (Zc ?_ (Zc ?_ (Zc ?_ (Zc ?_ (Zc ?_ (Zc ?_ POps.nil)))))))))))))))))) ?_
 exact fun θ R hd=>Zq (OD.loadAgg rfl ti27 rfl (i:=1) rfl (us:=[.int .i64 (cr),vcd]) rfl rfl) rfl
 exact fun θ R ⟨h0d,_⟩=>Zq (OG.imp (K':=fun v ow=>v = .bool false∧ow=box g2 51 [.int .i64 (0),.int .i64 (0),.int .i64 (0),.slice none 0 0]::box g1 27 [.int .i64 (cr),vcd]::own++R) (OG.call [.agg #[.int .i64 (cr),vcd]] ent58 rfl rfl rfl rfl (by exact(specIsCartan_w scd (Ent.drop 2 ecd.app) (hl0)))) (by rintro _ _ ⟨rfl,rfl⟩;exact⟨congrArg Value.bool (hx3),rfl⟩)) rfl
 exact fun θ R ⟨h1d,_⟩=>Zq (OD.not rfl rfl) rfl
 exact fun θ R ⟨h2d,_⟩=>Zq (OD.move rfl rfl) rfl
 exact fun θ R ⟨h3d,_⟩=>Opp.off ⟨[],rfl,trivial,rfl⟩ rfl rfl rfl rfl
 exact fun θ R ⟨h3d,h4d,_⟩=>Opp.off ⟨[],rfl,trivial,rfl⟩ rfl rfl rfl rfl
 exact fun θ R ⟨h3d,h5d,_⟩=>Opp.off ⟨[],rfl,trivial,rfl⟩ rfl rfl rfl rfl
 exact fun θ R ⟨h3d,h6d,_⟩=>Zq (OD.pickT rfl rfl rfl) rfl
 exact fun θ R ⟨h7d,_⟩=>Zq (OD.move rfl rfl) rfl
 exact fun θ R ⟨h8d,_⟩=>Opp.off ⟨[],rfl,trivial,rfl⟩ rfl rfl rfl rfl
 exact fun θ R ⟨h8d,h9d,_⟩=>Opp.off ⟨[],rfl,trivial,rfl⟩ rfl rfl rfl rfl
 exact fun θ R ⟨h8d,h10d,_⟩=>Opp.off ⟨[],rfl,trivial,rfl⟩ rfl rfl rfl rfl
 exact fun θ R ⟨h8d,h11d,_⟩=>Opp.off ⟨[],rfl,trivial,rfl⟩ rfl rfl rfl rfl
 exact fun θ R ⟨h8d,_⟩=>Opp.off ⟨[],rfl,trivial,rfl⟩ rfl rfl rfl rfl
 exact fun θ R ⟨h8d,h13d,_⟩=>Opp.off ⟨[],rfl,trivial,rfl⟩ rfl rfl rfl rfl
 exact fun θ R ⟨h8d,h12d,h14d,_⟩=>Opp.off ⟨[],rfl,trivial,rfl⟩ rfl rfl rfl rfl
 exact fun θ R ⟨h8d,h15d,_⟩=>Opp.off ⟨[],rfl,trivial,rfl⟩ rfl rfl rfl rfl
 exact fun θ R ⟨h8d,h16d,_⟩=>Zq (OD.pickT rfl rfl rfl) rfl
 intro θ hall
 obtain⟨_,_,_,_,_,_,_,_,_,_,_,_,_,_,_,_,_,_,_⟩:=hall
 refine G.at [] 0 (env':=[(1,.int .i64 (p)),(2,.pointer (some ⟨g1,0,none⟩)),(4,.pointer (some ⟨g2,0,none⟩)),(26,.bool true)]) ⟨rfl,rfl,rfl,rfl,trivial⟩ (own':=box g2 51 [.int .i64 (0),.int .i64 (0),.int .i64 (0),.slice none 0 0]::box g1 27 [.int .i64 (cr),vcd]::own) rfl ?_
 show G _ _ _ [] _ _ _ _
 refine Zn (Zt (GC.condT rfl (Zs (Zr ?_))))
 refine Zd (OD.build (idx:=[]) (xs:=[]) (vs:=[]) (cs:=[]) (zs:=[.int .i64 (0),.int .i64 (0),.int .i64 (0),.slice none 0 0]) (r:=[.int .i64 (0),.int .i64 (0),.int .i64 (0),.slice none 0 0]) rfl ti51 rfl rfl rfl trivial rfl) rfl ?_
 refine G.stepD0 (OD.store rfl ti51 rfl rfl (us:=[.int .i64 (0),.int .i64 (0),.int .i64 (0),.slice none 0 0]) rfl rfl rfl (i:=0) rfl rfl) rfl rfl ?_
 refine Za rfl (Zn (Zt (GC.ret (GE.passR ?_))))
 refine GE.nilInts 3 ?_
 exact GE.body [0] 2 (resN rfl (RVs.cons (rv_cells ti51 rfl (i:=1) rfl rfl) (RVs.cons (rv_tmp rfl) RVs.nil)) rfl) rfl (⟨(.slice none 0 0),congr (congr (congr (congrArg (fun(a0:Int) (a1:Int) (a2:Int) (a4:Bool)=>(.tuple #[.agg #[.int .i64 (a0),.int .i64 (a1),.int .i64 (a2),(.slice none 0 0)],.bool (a4)]:Value)) ((by rw[csP,hOk] <;> rfl:(0:Int)=csP cr cd p))) ((by rw[csr,hOk];first | rfl | (simp only[if_true,csR_len];omega):(0:Int)=csr cr cd p))) ((by rw[csC,hOk];first | rfl | (simp only[if_true];omega):(0:Int)=csC cr cd p))) ((hOk.symm:(false:Bool)=smOk cr cd p)),IsS.nil,congrArg (fun(l0:List Int)=>ints 3 (.slice none 0 0) l0::own) ((by rw[csD,hOk];first | rfl | (rw[if_pos rfl,show k=cr.toNat by omega]) : []=csD cr cd p))⟩)
end Go.Proofs.YtbmnnbglipkidaaGreatDoor
