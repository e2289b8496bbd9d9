/-
  Coroots: contracts by walks.
-/
import Derived.Test.YtbmnnbglipkidaaGreatDoorFct
import Derived.Test.YtbmnnbglipkidaaGreatDoorWLen
import Derived.Test.YtbmnnbglipkidaaGreatDoorNewA
namespace Go.Proofs.YtbmnnbglipkidaaGreatDoor
set_option linter.unusedVariables false
set_option linter.unusedSimpArgs false
open Go.RowKit
theorem ent57:∀ us w,(callFunc 57 us).run Tryz.prog w = .ok (.enter 57 us) w:=fun us w=>by kernel_rfl
set_option maxRecDepth 100000 in
theorem coroot_w {W:World}{own:List Asn}{cr:Int}{vcd:Value}{cd:List Int}{vy:Value}{y:List Int}(scd:IsS vcd)(ecd:Ent own fun w=>Ints w vcd cd)(sy:IsS vy)(ey:Ent own fun w=>Ints w vy y)(hty:(tyS cr cd).isSome=true)(hy:(y.length:Int)=cr)(hin:2≤inF cr cd y y∧inF cr cd y y≤2000000000):Spec Tryz.prog 69 [.agg #[.int .i64 (cr),vcd],vy] W own (fun v ow=>∃ (r0:Value),v=r0∧IsS r0∧ow=ints 3 r0 (crF cr cd y)::own):=by
 have hcr:=(tyS_ok hty).1
 have hll:=(len_ok hty).2.2
 have hhf:=half_ok hin
 have hhe:hfF cr cd y=IntKind.i64.wrap ((inF cr cd y y).tdiv 2):=rfl
 refine Spec.enter Tryz.f69 _ Tryz.func69 rfl (n:=38) rfl rfl ?_
 refine Zs (Zr (G.step (OG.box (cs:=[.int .i64 (cr),vcd]) rfl rfl rfl) rfl rfl rfl ?_))
 rintro _ _ ⟨g1,rfl,rfl⟩
 refine Za rfl (Zn (Zt (Zs (Zr (Zd (OD.loadAgg rfl ti27 rfl (i:=0) rfl (us:=[.int .i64 (cr),vcd]) rfl rfl) rfl ?_)))))
 refine G.step (OG.call [.agg #[.int .i64 (cr),vcd]] ent120 rfl rfl rfl rfl (by exact(lengths_w scd (Ent.drop 1 ecd) (hty)))) rfl rfl rfl ?_
 rintro v2 _ ⟨_,rfl,hs3,rfl⟩
 refine Za rfl (Zn (Zt (Zs (Zr (Zd (OD.loadAgg rfl ti27 rfl (i:=1) rfl (us:=[.int .i64 (cr),vcd]) rfl rfl) rfl ?_)))))
 refine Zm rfl (Zm rfl (G.step (OG.call [.agg #[.int .i64 (cr),vcd],vy,vy] ent57 rfl rfl rfl rfl (by exact(inner_w scd (Ent.drop 2 ecd) sy (Ent.drop 2 ey) sy (Ent.drop 2 ey) (hty) (hy) (hy)))) rfl rfl rfl ?_))
 rintro _ _ ⟨rfl,rfl⟩
 refine Zd (OD.quo rfl rfl rfl (by omega)) rfl ?_
 refine Za rfl (Zn (Zt (Zs (Zr (G.step (OG.buildInts (xs:=[]) (is:=[]) rfl et22 rfl rfl rfl rfl rfl) rfl rfl rfl ?_)))))
 rintro v4 _ ⟨hs5,rfl⟩
 refine Za rfl (Zn (Zt (Zs (Zs (Zr (Zm rfl (Zd (OD.len rfl rfl et22 rfl (Ent.drop 3 ey)) rfl ?_)))))))
 refine Zm rfl (Zn (Zt (GC.block ?_)))
 refine GC.loop (ι:=Nat × List Int × Value) (fun⟨i,ys,v⟩=>[(5,v2),(6,.int .i64 (IntKind.i64.wrap ((inF cr cd y y).tdiv 2))),(18,vy),(19,.int .i64 ((y.length:Nat))),(7,v),(20,.int .i64 ((i:Int)))]) (fun⟨i,ys,v⟩=>ints 3 v ys::ints 3 v2 (lenF cr cd)::box g1 27 [.int .i64 (cr),vcd]::own) (fun⟨i,ys,v⟩=>(i≤y.length)∧(IsS v)∧(ys=(List.range i).map (crI cr cd y))) (fun⟨i,ys,v⟩=>y.length - i) (0,[],v4) (⟨by omega,hs5,rfl⟩) ⟨rfl,rfl,rfl,rfl,rfl,rfl,trivial⟩ [] 0 rfl ?_
 rintro⟨i,ys,v⟩ ⟨hi,hv,hys⟩
 have hyl:ys.length=i:=by rw[hys];simp
 refine Zs (Zr (Zd (OD.lss rfl rfl rfl) rfl ?_))
 refine Zn (Zt (Zs ?_))
 refine GC.cond rfl (fun hc6=>?_) (fun hc6=>?_)
 replace hc6:=of_decide_eq_true hc6
 refine Zk (Zt (Zs (GC.block (Zs (Zr ?_)))))
 refine Zm rfl (Zd (OD.indexAddr rfl et22 rfl (Ent.drop 3 ey) rfl (by omega)) rfl ?_)
 refine Zd (OD.loadInt rfl ti3 rfl (Ent.drop 3 ey) (by omega)) rfl ?_
 refine Za rfl (Za rfl (Zn (Zt (Zr (Zm rfl (Zm rfl (Zm rfl (Zm rfl (Zd (OD.indexAddr rfl et22 rfl (Ent.ints (i:=1) rfl) rfl (by omega)) rfl ?_)))))))))
 refine Zd (OD.loadInt rfl ti3 rfl (Ent.ints (i:=1) rfl) (by omega)) rfl ?_
 refine Zd (OD.mul rfl rfl rfl) rfl ?_
 refine Zm rfl (Zd (OD.quo rfl rfl rfl (by omega)) rfl ?_)
 refine G.step (OG.buildInts (xs:=[.tmp 33]) (is:=[IntKind.i64.wrap ((IntKind.i64.wrap ((y.getD (i) 0)*((lenF cr cd).getD (i) 0))).tdiv (IntKind.i64.wrap ((inF cr cd y y).tdiv 2)))]) rfl et22 rfl rfl rfl rfl rfl) rfl rfl rfl ?_
 rintro v7 _ ⟨hs8,rfl⟩
 refine G.step (OG.appendInts 1 rfl rfl et22 rfl rfl rfl (Ent.ints (i:=0) rfl) (by first | omega | (simp;omega))) rfl rfl rfl ?_
 rintro v9 _ ⟨hs10,rfl⟩
 refine Za rfl (Zn (GE.blockN (Zt (Zr ?_))))
 refine Zd (OD.addI rfl rfl rfl (by omega)) rfl ?_
 exact Zm rfl (Zn (GE.again (i+1,ys++[IntKind.i64.wrap ((IntKind.i64.wrap ((y.getD (i) 0)*((lenF cr cd).getD (i) 0))).tdiv (IntKind.i64.wrap ((inF cr cd y y).tdiv 2)))],v9) (⟨by omega,hs10,by rw[hys];exact cr_step⟩) (by first | omega | (dsimp only;omega)) ⟨rfl,rfl,rfl,rfl,rfl,rfl,trivial⟩ [1,1,1] 1 rfl))
 replace hc6:=of_decide_eq_false hc6
 refine GC.exit (Zp (Zp (GE.hit (Zt (Zs (Zr ?_))))))
 refine Zm rfl (Za rfl (Zn (Zt (GC.ret ?_))))
 exact GE.body [0] 2 (res1 rfl rfl) rfl (⟨v,rfl,hv,congrArg (fun(l0:List Int)=>ints 3 v l0::own) ((by rw[hys,show i=y.length by omega];rfl:ys=crF cr cd y))⟩)
end Go.Proofs.YtbmnnbglipkidaaGreatDoor
