/-
  The law on the coroots' lines.
-/
import Derived.Test.YtbmnnbglipkidaaGreatDoorFct
import Derived.Test.YtbmnnbglipkidaaGreatDoorWCsp
import Derived.Test.YtbmnnbglipkidaaGreatDoorWCsq
namespace Go.Proofs.YtbmnnbglipkidaaGreatDoor
set_option linter.unusedVariables false
set_option linter.unusedSimpArgs false
open Go.RowKit
theorem ent8:∀ us w,(callFunc 8 us).run Tryz.prog w = .ok (.enter 8 us) w:=fun us w=>by kernel_rfl
theorem ent10:∀ us w,(callFunc 10 us).run Tryz.prog w = .ok (.enter 10 us) w:=fun us w=>by kernel_rfl
theorem ent13:∀ us w,(callFunc 13 us).run Tryz.prog w = .ok (.enter 13 us) w:=fun us w=>by kernel_rfl
theorem ent26:∀ us w,(callFunc 26 us).run Tryz.prog w = .ok (.enter 26 us) w:=fun us w=>by kernel_rfl
theorem ent29:∀ us w,(callFunc 29 us).run Tryz.prog w = .ok (.enter 29 us) w:=fun us w=>by kernel_rfl
theorem ent30:∀ us w,(callFunc 30 us).run Tryz.prog w = .ok (.enter 30 us) w:=fun us w=>by kernel_rfl
theorem ent31:∀ us w,(callFunc 31 us).run Tryz.prog w = .ok (.enter 31 us) w:=fun us w=>by kernel_rfl
theorem ent32:∀ us w,(callFunc 32 us).run Tryz.prog w = .ok (.enter 32 us) w:=fun us w=>by kernel_rfl
theorem ent33:∀ us w,(callFunc 33 us).run Tryz.prog w = .ok (.enter 33 us) w:=fun us w=>by kernel_rfl
theorem bt4:BT Tryz.prog 4:=⟨fun a b w=>by cases a <;> cases b <;> kernel_rfl,fun a b w=>by cases a <;> cases b <;> kernel_rfl⟩
set_option maxHeartbeats 4000000 in
set_option maxRecDepth 100000 in
theorem lawCartanSpace {W:World}{own:List Asn}{cr:Int}{vcd:Value}{cd:List Int}{p:Int}(scd:IsS vcd)(ecd:Ent own fun w=>Ints w vcd cd)(hcd:cd.length≤9223372036854775807)(hg:Ent own fun w=>∃ m,w.cell? ⟨Tryz.l146_ren.g 1,0,none⟩=some (.int .i64 m))(htab:Ent own Pow10):Spec Tryz.prog 6 [.agg #[.int .i64 (cr),vcd],.int .i64 (p)] W own (fun v ow=>v = .bool (true)∧ow=own):=by
 have hrl:=csD_len cr cd p
 refine Spec.enter Tryz.f6 _ Tryz.func6 rfl (n:=101) rfl rfl ?_
 refine Zs (Zr (G.step (OG.box (cs:=[.int .i64 (cr),vcd]) rfl rfl rfl) rfl rfl rfl ?_))
 rintro _ _ ⟨g1,rfl,rfl⟩
 refine Za rfl (Zn (Zt (Zs (Zr (Za rfl (Zn (Zt (Zs (Zr (Zd (OD.loadAgg rfl ti24 rfl (i:=0) rfl (us:=[.int .i64 (cr),vcd]) rfl rfl) rfl ?_))))))))))
 refine Zm rfl (G.step (OG.call [.agg #[.int .i64 (cr),vcd],.int .i64 (1048576)] ent8 rfl rfl rfl rfl (by exact(szCartan_s scd (Ent.drop 1 ecd) (by omega) (by omega)))) rfl rfl rfl ?_)
 rintro _ _ ⟨rfl,rfl⟩
 refine Za rfl (Zn (Zt (Zs (Zs (Zr (Zm rfl (Zd (OD.lss rfl rfl rfl) rfl ?_)))))))
 refine Zn (Zt ?_)
 refine GC.cond rfl (fun hc2=>?_) (fun hc2=>?_)
 replace hc2:=of_decide_eq_true hc2
 refine Zs (Zr (Za rfl (Zn (Zt (GC.ret (GE.passR ?_))))))
 exact GE.body [] 1 (res1 rfl rfl) rfl (⟨rfl,rfl⟩)
 replace hc2:=of_decide_eq_false hc2
 have hc2z:=szG_ok hc2
 refine Zk (Zt (Zs (Zr (Zd (OD.loadAgg rfl ti24 rfl (i:=0) rfl (us:=[.int .i64 (cr),vcd]) rfl rfl) rfl ?_))))
 refine G.step (OG.call [.agg #[.int .i64 (cr),vcd]] ent10 rfl rfl rfl rfl (by exact(toCartan_s scd (Ent.drop 1 ecd) (by omega)))) rfl rfl rfl ?_
 rintro _ _ ⟨v3,rfl,hs4,rfl⟩
 refine Zm rfl (G.step (OG.call [.agg #[.int .i64 (cr),v3],.int .i64 (p)] ent29 rfl rfl rfl rfl (by exact(specCartanSpace_w hs4 (Ent.ints (i:=0) rfl) (by omega)))) rfl rfl rfl ?_)
 rintro _ _ ⟨v5,rfl,hs6,rfl⟩
 refine Zm rfl (Zd (OD.extract rfl rfl rfl) rfl ?_)
 refine Zd (OD.extract rfl rfl rfl) rfl ?_
 refine G.step (OG.alloc rfl ti51 (zs:=[.int .i64 (0),.int .i64 (0),.int .i64 (0),.slice none 0 0]) rfl) rfl rfl rfl ?_
 rintro _ _ ⟨g7,rfl,rfl⟩
 refine G.stepD0 (OD.store rfl ti51 rfl rfl (us:=[.int .i64 (csP cr cd p),.int .i64 (csr cr cd p),.int .i64 (csC cr cd p),v5]) rfl rfl (allC rfl (allC rfl (allC rfl (allC (IsS.one hs6) rfl)))) (i:=0) rfl rfl) rfl rfl ?_
 refine Za rfl (Zn (Zt (Zs (Zr (Zd (OD.loadAgg rfl ti24 rfl (i:=3) rfl (us:=[.int .i64 (cr),vcd]) rfl rfl) rfl ?_)))))
 refine G.step (OG.call [.agg #[.int .i64 (cr),vcd]] ent10 rfl rfl rfl rfl (by exact(toCartan_s scd (Ent.drop 4 ecd) (by omega)))) rfl rfl rfl ?_
 rintro _ _ ⟨v8,rfl,hs9,rfl⟩
 refine G.step (OG.alloc rfl ti27 (zs:=[.int .i64 (0),.slice none 0 0]) rfl) rfl rfl rfl ?_
 rintro _ _ ⟨g10,rfl,rfl⟩
 refine G.stepD0 (OD.store rfl ti27 rfl rfl (us:=[.int .i64 (cr),v8]) rfl rfl (allC rfl (allC (IsS.one hs9) rfl)) (i:=0) rfl rfl) rfl rfl ?_
 refine Zn (Zt (Zs (Zr (Zd (OD.loadAgg rfl ti27 rfl (i:=0) rfl (us:=[.int .i64 (cr),v8]) rfl rfl) rfl ?_))))
 refine Zm rfl (G.step (OG.call [.agg #[.int .i64 (cr),v8],.int .i64 (p)] ent30 rfl rfl rfl rfl (by exact(cartanSpace_w hs9 (Ent.ints (i:=1) rfl) (by omega) ((Ent.drop 6 hg)) ((Ent.drop 6 htab))))) rfl rfl rfl ?_)
 rintro _ _ ⟨v11,rfl,hs12,rfl⟩
 refine Zm rfl (Zd (OD.extract rfl rfl rfl) rfl ?_)
 refine Zd (OD.extract rfl rfl rfl) rfl ?_
 refine G.step (OG.alloc rfl ti51 (zs:=[.int .i64 (0),.int .i64 (0),.int .i64 (0),.slice none 0 0]) rfl) rfl rfl rfl ?_
 rintro _ _ ⟨g13,rfl,rfl⟩
 refine G.stepD0 (OD.store rfl ti51 rfl rfl (us:=[.int .i64 (csP cr cd p),.int .i64 (csr cr cd p),.int .i64 (csC cr cd p),v11]) rfl rfl (allC rfl (allC rfl (allC rfl (allC (IsS.one hs12) rfl)))) (i:=0) rfl rfl) rfl rfl ?_
 refine Za rfl (Zn (Zt (Zs (Zs (Zr (Zd (OD.loadAgg rfl ti51 rfl (i:=0) rfl (us:=[.int .i64 (csP cr cd p),.int .i64 (csr cr cd p),.int .i64 (csC cr cd p),v11]) rfl rfl) rfl ?_))))))
 refine Zd (OD.loadAgg rfl ti51 rfl (i:=4) rfl (us:=[.int .i64 (csP cr cd p),.int .i64 (csr cr cd p),.int .i64 (csC cr cd p),v5]) rfl rfl) rfl ?_
 refine G.step (OG.call [.agg #[.int .i64 (csP cr cd p),.int .i64 (csr cr cd p),.int .i64 (csC cr cd p),v11],.agg #[.int .i64 (csP cr cd p),.int .i64 (csr cr cd p),.int .i64 (csC cr cd p),v5]] ent31 rfl rfl rfl rfl (by exact(eqMatrix_same hs12 (Ent.ints (i:=1) rfl) hs6 (Ent.ints (i:=5) rfl) (by omega)))) rfl rfl rfl ?_
 rintro _ _ ⟨rfl,rfl⟩
 refine Zd (OD.not rfl rfl) rfl ?_
 refine Zm rfl (G.stepGD (OD.move rfl rfl) rfl rfl rfl rfl rfl ?_)
 refine G.stepGD (OD.move rfl rfl) rfl rfl rfl rfl rfl ?_
 refine G.stepGD (OD.eqv (OD.neqB bt4 rfl rfl rfl) (congrArg Value.bool (bneB_same _))) rfl rfl rfl rfl rfl ?_
 refine Zd (OD.pickF rfl rfl rfl) rfl ?_
 refine Zn (Zt (GC.condF rfl (Zk (Zt (Zs (Zs ?_))))))
 refine GC.at [] 0 (env':=[(1,.int .i64 (p)),(2,.pointer (some ⟨g1,0,none⟩)),(6,.pointer (some ⟨g7,0,none⟩)),(7,.bool (smOk cr cd p)),(8,.pointer (some ⟨g10,0,none⟩)),(9,.pointer (some ⟨g13,0,none⟩)),(10,.bool (smOk cr cd p))]) ⟨rfl,rfl,rfl,rfl,rfl,rfl,rfl,trivial⟩ rfl ?_
 refine GC.par (its:=[Z0 45 (.agg #[.int .i64 (cr),v8]),
     Z0 46 (.agg #[.int .i64 (cr),vcd]),
     ⟨47,[(1,46)],[],[],[2],fun ds => .agg #[.int .i64 (cr),((ds.getD 0 []).getD 0 undef)],fun ds=>IsS ((ds.getD 0 []).getD 0 undef),fun ds=>[ints 3 ((ds.getD 0 []).getD 0 undef) cd]⟩,
     ⟨48,[(0,45),(2,47)],[2],[],[2],fun _ => .bool true,fun _=>True,fun _=>[]⟩,
     ⟨49,[(3,48)],[2],[],[2],fun _ => .bool false,fun _=>True,fun _=>[]⟩]) (by kernel_rfl) (by kernel_rfl) (Zc ?_ (Zc ?_ (Zc ?_ (Zc ?_ (Zc ?_ POps.nil))))) ?_
 exact fun θ R hd=>Zq (OD.loadAgg rfl ti27 rfl (i:=2) rfl (us:=[.int .i64 (cr),v8]) rfl rfl) rfl
 exact fun θ R hd=>Zq (OD.loadAgg rfl ti24 rfl (i:=7) rfl (us:=[.int .i64 (cr),vcd]) rfl rfl) rfl
 exact fun θ R ⟨h1d,_⟩=>Opp.plain (OG.imp (OG.call [.agg #[.int .i64 (cr),vcd]] ent10 rfl rfl rfl rfl (by exact(toCartan_s scd (Ent.drop 8 ecd.app) (by omega)))) (by rintro _ _ ⟨v14,rfl,hs15,rfl⟩;exact⟨[v14],rfl,hs15,rfl⟩)) rfl
 exact fun θ R ⟨h0d,h2d,_⟩=>Zq (OG.call [.agg #[.int .i64 (cr),v8],.agg #[.int .i64 (cr),((θ 2).getD 0 undef)]] ent13 rfl rfl rfl rfl (by exact(eqCartan_same hs9 (Ent.ints (i:=4) rfl) h2d (Ent.ints (i:=0) rfl) (by omega)))) rfl
 exact fun θ R ⟨h3d,_⟩=>Zq (OD.not rfl rfl) rfl
 intro θ hall
 obtain⟨_,_,h2a,_,_,_⟩:=hall
 refine G.at [] 0 (env':=[(1,.int .i64 (p)),(2,.pointer (some ⟨g1,0,none⟩)),(6,.pointer (some ⟨g7,0,none⟩)),(7,.bool (smOk cr cd p)),(8,.pointer (some ⟨g10,0,none⟩)),(9,.pointer (some ⟨g13,0,none⟩)),(10,.bool (smOk cr cd p)),(49,.bool false)]) ⟨rfl,rfl,rfl,rfl,rfl,rfl,rfl,rfl,trivial⟩ (own':=ints 3 ((θ 2).getD 0 undef) cd::box g13 51 [.int .i64 (csP cr cd p),.int .i64 (csr cr cd p),.int .i64 (csC cr cd p),v11]::ints 3 v11 (csD cr cd p)::box g10 27 [.int .i64 (cr),v8]::ints 3 v8 cd::box g7 51 [.int .i64 (csP cr cd p),.int .i64 (csr cr cd p),.int .i64 (csC cr cd p),v5]::ints 3 v5 (csD cr cd p)::ints 3 v3 cd::box g1 24 [.int .i64 (cr),vcd]::own) rfl ?_
 have hs16:IsS ((θ 2).getD 0 undef):=h2a
 clear h2a
 generalize ((θ 2).getD 0 undef)=v17 at *
 show G _ _ _ [] _ _ _ _
 refine Zn (Zt (GC.condF rfl (Zk (Zt (Zs (Zr ?_))))))
 refine Za rfl (Zn (Zt (Zs (Zr (Zd (OD.loadAgg rfl ti27 rfl (i:=3) rfl (us:=[.int .i64 (cr),v8]) rfl rfl) rfl ?_)))))
 refine Zm rfl ?_
 refine G.at [4] 0 (env':=[(1,.int .i64 (p)),(2,.pointer (some ⟨g1,0,none⟩)),(6,.pointer (some ⟨g7,0,none⟩)),(7,.bool (smOk cr cd p)),(8,.pointer (some ⟨g10,0,none⟩)),(9,.pointer (some ⟨g13,0,none⟩)),(10,.bool (smOk cr cd p)),(49,.bool false),(11,.int .i64 (1)),(50,.agg #[.int .i64 (cr),v8]),(51,.int .i64 (1))]) ⟨rfl,rfl,rfl,rfl,rfl,rfl,rfl,rfl,rfl,rfl,rfl,trivial⟩ (own':=ints 3 v8 cd::ints 3 v17 cd::box g13 51 [.int .i64 (csP cr cd p),.int .i64 (csr cr cd p),.int .i64 (csC cr cd p),v11]::ints 3 v11 (csD cr cd p)::box g10 27 [.int .i64 (cr),v8]::box g7 51 [.int .i64 (csP cr cd p),.int .i64 (csr cr cd p),.int .i64 (csC cr cd p),v5]::ints 3 v5 (csD cr cd p)::ints 3 v3 cd::box g1 24 [.int .i64 (cr),vcd]::own) rfl ?_
 refine G.step (OG.call [.agg #[.int .i64 (cr),v8],.int .i64 (1)] ent26 rfl rfl rfl rfl (by exact(markCartan_s hs9 (by omega) (by omega)))) rfl rfl rfl ?_
 rintro _ _ ⟨rfl,rfl⟩
 refine Za rfl (Zn (Zt (Zs (Zs (Zr (Zm rfl (Zd (OD.eqv (OD.lss rfl rfl rfl) (congrArg Value.bool ((decide_eq_false (by omega)):_=false))) rfl ?_)))))))
 refine Zm rfl (G.stepGD (OD.loadAgg rfl ti51 rfl (i:=2) rfl (us:=[.int .i64 (csP cr cd p),.int .i64 (csr cr cd p),.int .i64 (csC cr cd p),v11]) rfl rfl) rfl rfl rfl rfl rfl ?_)
 refine G.stepGD (OD.loadAgg rfl ti51 rfl (i:=5) rfl (us:=[.int .i64 (csP cr cd p),.int .i64 (csr cr cd p),.int .i64 (csC cr cd p),v5]) rfl rfl) rfl rfl rfl rfl rfl ?_
 refine G.stepG (OG.call [.agg #[.int .i64 (csP cr cd p),.int .i64 (csr cr cd p),.int .i64 (csC cr cd p),v11],.agg #[.int .i64 (csP cr cd p),.int .i64 (csr cr cd p),.int .i64 (csC cr cd p),v5]] ent31 rfl rfl rfl rfl (by exact(eqMatrix_same hs12 (Ent.ints (i:=3) rfl) hs6 (Ent.ints (i:=6) rfl) (by omega)))) rfl rfl rfl rfl rfl ?_
 rintro _ _ ⟨rfl,rfl⟩
 refine G.stepGD (OD.not rfl rfl) rfl rfl rfl rfl rfl ?_
 refine Zd (OD.pickF rfl rfl rfl) rfl ?_
 refine Zm rfl (G.stepGD (OD.move rfl rfl) rfl rfl rfl rfl rfl ?_)
 refine G.stepGD (OD.move rfl rfl) rfl rfl rfl rfl rfl ?_
 refine G.stepGD (OD.eqv (OD.neqB bt4 rfl rfl rfl) (congrArg Value.bool (bneB_same _))) rfl rfl rfl rfl rfl ?_
 refine Zd (OD.pickF rfl rfl rfl) rfl ?_
 refine Zn (Zt (GC.condF rfl (Zk (Zt (Zs (Zr ?_))))))
 refine Za rfl (Zn (Zt (Zs (Zr (Zd (OD.loadAgg rfl ti51 rfl (i:=2) rfl (us:=[.int .i64 (csP cr cd p),.int .i64 (csr cr cd p),.int .i64 (csC cr cd p),v11]) rfl rfl) rfl ?_)))))
 refine Zm rfl ?_
 refine G.at [3] 0 (env':=[(1,.int .i64 (p)),(2,.pointer (some ⟨g1,0,none⟩)),(6,.pointer (some ⟨g7,0,none⟩)),(7,.bool (smOk cr cd p)),(8,.pointer (some ⟨g10,0,none⟩)),(9,.pointer (some ⟨g13,0,none⟩)),(10,.bool (smOk cr cd p)),(49,.bool false),(50,.agg #[.int .i64 (cr),v8]),(51,.int .i64 (1)),(52,.int .i64 (1+(cd.length:Nat))),(11,.int .i64 (1+(cd.length:Nat))),(53,.int .i64 (1+(cd.length:Nat))),(54,.bool false),(55,.bool false),(56,.agg #[.int .i64 (csP cr cd p),.int .i64 (csr cr cd p),.int .i64 (csC cr cd p),v11]),(57,.agg #[.int .i64 (csP cr cd p),.int .i64 (csr cr cd p),.int .i64 (csC cr cd p),v5]),(58,.bool true),(59,.bool false),(60,.bool false),(61,.bool false),(62,.bool (smOk cr cd p)),(63,.bool (smOk cr cd p)),(64,.bool false),(65,.bool false),(12,.int .i64 (1)),(66,.agg #[.int .i64 (csP cr cd p),.int .i64 (csr cr cd p),.int .i64 (csC cr cd p),v11]),(67,.int .i64 (1))]) ⟨rfl,rfl,rfl,rfl,rfl,rfl,rfl,rfl,rfl,rfl,rfl,rfl,rfl,rfl,rfl,rfl,rfl,rfl,rfl,rfl,rfl,rfl,rfl,rfl,rfl,rfl,rfl,rfl,trivial⟩ (own':=ints 3 v11 (csD cr cd p)::ints 3 v8 (mkd 1 cd.length)::ints 3 v17 cd::box g13 51 [.int .i64 (csP cr cd p),.int .i64 (csr cr cd p),.int .i64 (csC cr cd p),v11]::box g10 27 [.int .i64 (cr),v8]::box g7 51 [.int .i64 (csP cr cd p),.int .i64 (csr cr cd p),.int .i64 (csC cr cd p),v5]::ints 3 v5 (csD cr cd p)::ints 3 v3 cd::box g1 24 [.int .i64 (cr),vcd]::own) rfl ?_
 refine G.step (OG.call [.agg #[.int .i64 (csP cr cd p),.int .i64 (csr cr cd p),.int .i64 (csC cr cd p),v11],.int .i64 (1)] ent32 rfl rfl rfl rfl (by exact(markMatrix_s hs12 (by omega) (by omega)))) rfl rfl rfl ?_
 rintro _ _ ⟨rfl,rfl⟩
 refine Za rfl (Zn (Zt (Zs (Zr (Za rfl (Zn (Zt (Zs (Zr (Zd (OD.loadAgg rfl ti51 rfl (i:=3) rfl (us:=[.int .i64 (csP cr cd p),.int .i64 (csr cr cd p),.int .i64 (csC cr cd p),v11]) rfl rfl) rfl ?_))))))))))
 refine Zm rfl (G.step (OG.call [.agg #[.int .i64 (csP cr cd p),.int .i64 (csr cr cd p),.int .i64 (csC cr cd p),v11],.int .i64 (1)] ent33 rfl rfl rfl rfl (by exact(heldMatrix_m hs12 (Ent.ints (i:=0) rfl) (by omega) (by omega)))) rfl rfl rfl ?_)
 rintro _ _ ⟨rfl,rfl⟩
 refine Za rfl (Zn (Zt (Zs (Zs (Zr (Zm rfl (Zd (OD.eqv (OD.lss rfl rfl rfl) (congrArg Value.bool ((decide_eq_false (by omega)):_=false))) rfl ?_)))))))
 refine Zn (Zt (GC.condF rfl (Zk (Zt (Zs (Zs (Zr ?_)))))))
 refine Zm rfl (Zm rfl (Zd (OD.eqv (OD.neq rfl rfl rfl) (congrArg Value.bool ((bne_same _):_=false))) rfl ?_))
 refine Zn (Zt (GC.condF rfl (Zk (Zt (Zs (Zr ?_))))))
 refine Zd (OD.loadAgg rfl ti24 rfl (i:=8) rfl (us:=[.int .i64 (cr),vcd]) rfl rfl) rfl ?_
 refine G.step (OG.call [.agg #[.int .i64 (cr),vcd]] ent10 rfl rfl rfl rfl (by exact(toCartan_s scd (Ent.drop 9 ecd) (by omega)))) rfl rfl rfl ?_
 rintro _ _ ⟨v18,rfl,hs19,rfl⟩
 refine Zm rfl (G.step (OG.call [.agg #[.int .i64 (cr),v18],.int .i64 (p)] ent30 rfl rfl rfl rfl (by exact(cartanSpace_w hs19 (Ent.ints (i:=0) rfl) (by omega) ((Ent.drop 10 hg)) ((Ent.drop 10 htab))))) rfl rfl rfl ?_)
 rintro _ _ ⟨v20,rfl,hs21,rfl⟩
 refine Zm rfl (Zd (OD.extract rfl rfl rfl) rfl ?_)
 refine Zd (OD.extract rfl rfl rfl) rfl ?_
 refine G.step (OG.alloc rfl ti51 (zs:=[.int .i64 (0),.int .i64 (0),.int .i64 (0),.slice none 0 0]) rfl) rfl rfl rfl ?_
 rintro _ _ ⟨g22,rfl,rfl⟩
 refine G.stepD0 (OD.store rfl ti51 rfl rfl (us:=[.int .i64 (csP cr cd p),.int .i64 (csr cr cd p),.int .i64 (csC cr cd p),v20]) rfl rfl (allC rfl (allC rfl (allC rfl (allC (IsS.one hs21) rfl)))) (i:=0) rfl rfl) rfl rfl ?_
 refine Za rfl (Zn (Zt (Zs (Zs (Zr (Zd (OD.loadAgg rfl ti51 rfl (i:=0) rfl (us:=[.int .i64 (csP cr cd p),.int .i64 (csr cr cd p),.int .i64 (csC cr cd p),v20]) rfl rfl) rfl ?_))))))
 refine Zd (OD.loadAgg rfl ti51 rfl (i:=8) rfl (us:=[.int .i64 (csP cr cd p),.int .i64 (csr cr cd p),.int .i64 (csC cr cd p),v5]) rfl rfl) rfl ?_
 refine G.step (OG.call [.agg #[.int .i64 (csP cr cd p),.int .i64 (csr cr cd p),.int .i64 (csC cr cd p),v20],.agg #[.int .i64 (csP cr cd p),.int .i64 (csr cr cd p),.int .i64 (csC cr cd p),v5]] ent31 rfl rfl rfl rfl (by exact(eqMatrix_same hs21 (Ent.ints (i:=1) rfl) hs6 (Ent.ints (i:=9) rfl) (by omega)))) rfl rfl rfl ?_
 rintro _ _ ⟨rfl,rfl⟩
 refine Zd (OD.not rfl rfl) rfl ?_
 refine Zm rfl (G.stepGD (OD.move rfl rfl) rfl rfl rfl rfl rfl ?_)
 refine G.stepGD (OD.move rfl rfl) rfl rfl rfl rfl rfl ?_
 refine G.stepGD (OD.eqv (OD.neqB bt4 rfl rfl rfl) (congrArg Value.bool (bneB_same _))) rfl rfl rfl rfl rfl ?_
 refine Zd (OD.pickF rfl rfl rfl) rfl ?_
 refine Zn (Zt (GC.condF rfl (Zk (Zt (Zs (Zr ?_))))))
 refine Za rfl (Zn (Zt (Zs (Zr (Zd (OD.loadAgg rfl ti51 rfl (i:=6) rfl (us:=[.int .i64 (csP cr cd p),.int .i64 (csr cr cd p),.int .i64 (csC cr cd p),v11]) rfl rfl) rfl ?_)))))
 refine Zm rfl (G.step (OG.call [.agg #[.int .i64 (csP cr cd p),.int .i64 (csr cr cd p),.int .i64 (csC cr cd p),v11],.int .i64 (1)] ent33 rfl rfl rfl rfl (by exact(heldMatrix_m hs12 (Ent.ints (i:=3) rfl) (by omega) (by omega)))) rfl rfl rfl ?_)
 rintro _ _ ⟨rfl,rfl⟩
 refine Za rfl (Zn (Zt (Zs (Zs (Zr (Zm rfl (Zd (OD.eqv (OD.lss rfl rfl rfl) (congrArg Value.bool ((decide_eq_false (by omega)):_=false))) rfl ?_)))))))
 refine Zn (Zt (GC.condF rfl (Zk (Zt (Zs (Zs (Zr ?_)))))))
 refine Zm rfl (Zm rfl (Zd (OD.eqv (OD.neq rfl rfl rfl) (congrArg Value.bool ((bne_same _):_=false))) rfl ?_))
 refine Zn (Zt (GC.condF rfl (Zk (Zt (Zs (Zr ?_))))))
 refine Za rfl (Zn (Zt (GC.ret ?_)))
 exact GE.body [] 12 (res1 rfl rfl) rfl (⟨rfl,rfl⟩)
end Go.Proofs.YtbmnnbglipkidaaGreatDoor
