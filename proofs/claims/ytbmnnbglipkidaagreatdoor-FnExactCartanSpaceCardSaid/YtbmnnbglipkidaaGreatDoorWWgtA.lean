/-
  Weights of a matrix: contracts by walks.
-/
import Derived.Test.YtbmnnbglipkidaaGreatDoorFct
import Derived.Test.YtbmnnbglipkidaaGreatDoorWTofA
import Derived.Test.YtbmnnbglipkidaaGreatDoorZ28
namespace Go.Proofs.YtbmnnbglipkidaaGreatDoor
set_option maxRecDepth 100000
set_option linter.unusedVariables false
set_option linter.unusedSimpArgs false
open Go.RowKit
theorem l5Weight_w {W:World}{own:List Asn}{cr:Int}{vcd:Value}{cd:List Int}{vx:Value}{x:List Int}(scd:IsS vcd)(ecd:Ent own fun w=>Ints w vcd cd)(sx:IsS vx)(ex:Ent own fun w=>Ints w vx x)(hcr:1≤cr∧cr≤4)(hcd:(cd.length:Int)=cr*cr)(hx:(x.length:Int)=cr):Spec Tryz.prog 124 [.agg #[.int .i64 (cr),vcd],vx] W own (fun v ow=>∃ (r0:Value),v=r0∧IsS r0∧ow=ints 3 r0 (wtF cr cd x)::own):=by
 have hrl:(List.replicate (cr:Int).toNat (0:Int)).length=cr.toNat:=List.length_replicate
 refine Spec.enter Tryz.f124 _ Tryz.func124 rfl (n:=41) rfl rfl ?_
 refine Zs (Zr (G.step (OG.box (cs:=[.int .i64 (cr),vcd]) rfl rfl rfl) rfl rfl rfl ?_))
 rintro _ _ ⟨g1,rfl,rfl⟩
 refine Za rfl (Zn (Zt (Zs (Zr (Zd (OD.fieldAddr rfl rfl fa27_0) rfl ?_)))))
 refine Zd (OD.load rfl ti3 rfl (i:=0) rfl rfl) rfl ?_
 refine G.step (OG.makeInts rfl et22 rfl rfl (by omega)) rfl rfl rfl ?_
 rintro v2 _ ⟨hs3,rfl⟩
 refine Za rfl (Zn (Zt (Zs (Zs (Zr (Za rfl (Zn (Zt (GC.block ?_)))))))))
 refine GC.loop (ι:=Nat × List Int) (fun⟨i,ys⟩=>[(1,vx),(2,.pointer (some ⟨g1,0,none⟩)),(5,v2),(6,.int .i64 ((i:Int)))]) (fun⟨i,ys⟩=>ints 3 v2 ys::box g1 27 [.int .i64 (cr),vcd]::own) (fun⟨i,ys⟩=>(i≤cr.toNat)∧(ys.length=cr.toNat)∧(ys=(List.range i).foldl (wtI cr cd x) (List.replicate cr.toNat 0))) (fun⟨i,ys⟩=>cr.toNat - i) (0,(List.replicate (cr:Int).toNat 0)) (⟨by omega,by simp,rfl⟩) ⟨rfl,rfl,rfl,rfl,trivial⟩ [] 0 rfl ?_
 rintro⟨i,ys⟩ ⟨hi,hyl,hy⟩
 refine Zs (Zs (Zr (Zm rfl (Zd (OD.fieldAddr rfl rfl fa27_0) rfl ?_))))
 refine Zd (OD.load rfl ti3 rfl (i:=1) rfl rfl) rfl ?_
 refine Zd (OD.lss rfl rfl rfl) rfl ?_
 refine Zn (Zt ?_)
 refine GC.cond rfl (fun hc4=>?_) (fun hc4=>?_)
 replace hc4:=of_decide_eq_true hc4
 refine Zk (Zt (Zs (GC.block (Zs (Zr ?_)))))
 refine Za rfl (Zn (Zt (GC.block ?_)))
 refine GC.loop (ι:=Nat × List Int) (fun⟨j,zs⟩=>[(1,vx),(2,.pointer (some ⟨g1,0,none⟩)),(5,v2),(6,.int .i64 ((i:Int))),(7,.int .i64 ((j:Int)))]) (fun⟨j,zs⟩=>ints 3 v2 zs::box g1 27 [.int .i64 (cr),vcd]::own) (fun⟨j,zs⟩=>(j≤x.length)∧(zs.length=cr.toNat)∧(zs=(List.range j).foldl (fun(o:List Int) (j:Nat)=>o.set i (IntKind.i64.wrap (o.getD i 0+IntKind.i64.wrap (atI cr cd i j*x.getD j 0)))) ys)) (fun⟨j,zs⟩=>x.length - j) (0,ys) (⟨by omega,hyl,rfl⟩) ⟨rfl,rfl,rfl,rfl,rfl,trivial⟩ [] 0 rfl ?_
 rintro⟨j,zs⟩ ⟨hj,hzl,hz⟩
 refine Zs (Zs (Zr (Zm rfl (Zd (OD.fieldAddr rfl rfl fa27_0) rfl ?_))))
 refine Zd (OD.load rfl ti3 rfl (i:=1) rfl rfl) rfl ?_
 refine Zd (OD.lss rfl rfl rfl) rfl ?_
 refine Zn (Zt ?_)
 refine GC.cond rfl (fun hc5=>?_) (fun hc5=>?_)
 replace hc5:=of_decide_eq_true hc5
 have hxx:=idx_bd (n:=cr) (i:=i) (j:=j) ⟨by omega,by omega⟩ ⟨by omega,by omega⟩ (by omega)
 refine Zk (Zt (Zs (GC.block ?_)))
 refine GC.at [] 0 (env':=[(1,vx),(2,.pointer (some ⟨g1,0,none⟩)),(5,v2),(6,.int .i64 ((i:Int))),(7,.int .i64 ((j:Int)))]) ⟨rfl,rfl,rfl,rfl,rfl,trivial⟩ rfl ?_
 refine GC.par (its:=[Z0 23 v2,
     Z0 24 (.int .i64 ((i:Int))),
     Z0 25 v2,
     Z0 26 (.int .i64 ((i:Int))),
     Z1 27 [(2,25),(3,26)] (elemPtr v2 1 (i)),
     Z1 28 [(4,27)] (.int .i64 (zs.getD (i) 0)),
     Z0 29 (.agg #[.int .i64 (cr),vcd]),
     Z0 30 (.int .i64 ((i:Int))),
     Z0 31 (.int .i64 ((j:Int))),
     Z1 32 [(6,29),(7,30),(8,31)] (.int .i64 (atI cr cd (i:Int) (j:Int))),
     Z0 33 vx,
     Z0 34 (.int .i64 ((j:Int))),
     Z1 35 [(10,33),(11,34)] (elemPtr vx 1 (j)),
     Z1 36 [(12,35)] (.int .i64 (x.getD (j) 0)),
     Z1 37 [(9,32),(13,36)] (.int .i64 (IntKind.i64.wrap ((atI cr cd (i:Int) (j:Int))*(x.getD (j) 0)))),
     Z1 38 [(5,28),(14,37)] (.int .i64 (IntKind.i64.wrap ((zs.getD (i) 0)+(IntKind.i64.wrap ((atI cr cd (i:Int) (j:Int))*(x.getD (j) 0)))))),
     Z1 39 [(0,23),(1,24)] (elemPtr v2 1 (i))]) (by kernel_rfl) (by kernel_rfl) (Zc ?_ (Zc ?_ (Zc ?_ (Zc ?_ (Zc ?_ (Zc ?_ (Zc ?_ (Zc ?_ (Zc ?_ (Zc ?_ (Zc ?_ (Zc ?_ (Zc ?_ (Zc ?_ (Zc ?_ (Zc ?_ (Zc ?_ POps.nil))))))))))))))))) ?_
 exact fun θ R hd=>Zq (OD.move rfl rfl) rfl
 exact fun θ R hd=>Zq (OD.move rfl rfl) rfl
 exact fun θ R hd=>Zq (OD.move rfl rfl) rfl
 exact fun θ R hd=>Zq (OD.move rfl rfl) rfl
 exact fun θ R ⟨h2d,h3d,_⟩=>Zq (OD.indexAddr rfl et22 rfl (Ent.ints (i:=0) rfl) rfl (by omega)) rfl
 exact fun θ R ⟨h4d,_⟩=>Zq (OD.loadInt rfl ti3 rfl (Ent.ints (i:=0) rfl) (by omega)) rfl
 exact fun θ R hd=>Zq (OD.loadAgg rfl ti27 rfl (i:=1) rfl (us:=[.int .i64 (cr),vcd]) rfl rfl) rfl
 exact fun θ R hd=>Zq (OD.move rfl rfl) rfl
 exact fun θ R hd=>Zq (OD.move rfl rfl) rfl
 exact fun θ R ⟨h6d,h7d,h8d,_⟩=>Zq (OG.call [.agg #[.int .i64 (cr),vcd],.int .i64 ((i:Int)),.int .i64 ((j:Int))] ent109 rfl rfl rfl rfl (by exact(l5At_w scd (Ent.drop 2 ecd.app) (by omega)))) rfl
 exact fun θ R hd=>Zq (OD.move rfl rfl) rfl
 exact fun θ R hd=>Zq (OD.move rfl rfl) rfl
 exact fun θ R ⟨h10d,h11d,_⟩=>Zq (OD.indexAddr rfl et22 rfl (Ent.drop 2 ex.app) rfl (by omega)) rfl
 exact fun θ R ⟨h12d,_⟩=>Zq (OD.loadInt rfl ti3 rfl (Ent.drop 2 ex.app) (by omega)) rfl
 exact fun θ R ⟨h9d,h13d,_⟩=>Zq (OD.mul rfl rfl rfl) rfl
 exact fun θ R ⟨h5d,h14d,_⟩=>Zq (OD.add rfl rfl rfl) rfl
 exact fun θ R ⟨h0d,h1d,_⟩=>Zq (OD.indexAddr rfl et22 rfl (Ent.ints (i:=0) rfl) rfl (by omega)) rfl
 intro θ hall
 obtain⟨_,_,_,_,_,_,_,_,_,_,_,_,_,_,_,_,_,_⟩:=hall
 refine G.at [] 0 (env':=[(1,vx),(2,.pointer (some ⟨g1,0,none⟩)),(5,v2),(6,.int .i64 ((i:Int))),(7,.int .i64 ((j:Int))),(38,.int .i64 (IntKind.i64.wrap ((zs.getD (i) 0)+(IntKind.i64.wrap ((atI cr cd (i:Int) (j:Int))*(x.getD (j) 0)))))),(39,elemPtr v2 1 (i))]) ⟨rfl,rfl,rfl,rfl,rfl,rfl,rfl,trivial⟩ (own':=ints 3 v2 zs::box g1 27 [.int .i64 (cr),vcd]::own) rfl ?_
 show G _ _ _ [_] _ _ _ _
 refine G.stepD0 (OD.storeInt rfl ti3 rfl rfl (i:=0) rfl (by omega)) rfl rfl ?_
 refine Zn (GE.blockN (Zt (Zr ?_)))
 refine Zm rfl (Zd (OD.addI rfl rfl rfl (by first | omega | (simp only[List.length_set,List.length_replicate];omega))) rfl ?_)
 exact Za rfl (Zn (GE.again (j+1,(zs).set (i) (IntKind.i64.wrap ((zs.getD (i) 0)+(IntKind.i64.wrap ((atI cr cd (i:Int) (j:Int))*(x.getD (j) 0)))))) (⟨by omega,by rw[List.length_set];exact hzl,fold_next hz rfl⟩) (by first | omega | (dsimp only;omega)) ⟨rfl,rfl,rfl,rfl,rfl,trivial⟩ [] 0 rfl))
 replace hc5:=of_decide_eq_false hc5
 refine GC.exit (Zp (Zp (GE.hit (GE.blockN (Zt (Zr ?_))))))
 refine Zm rfl (Zd (OD.addI rfl rfl rfl (by omega)) rfl ?_)
 exact Za rfl (Zn (GE.again (i+1,zs) (⟨by omega,hzl,fold_next hy (by rw[hz,show j=x.length by omega];rfl)⟩) (by first | omega | (dsimp only;omega)) ⟨rfl,rfl,rfl,rfl,trivial⟩ [] 0 rfl))
 replace hc4:=of_decide_eq_false hc4
 refine GC.exit (Zp (Zp (GE.hit (Zt (Zs (Zr ?_))))))
 refine Zm rfl (Za rfl (Zn (Zt (GC.ret ?_))))
 exact GE.body [0] 1 (res1 rfl rfl) rfl (⟨v2,rfl,hs3,congrArg (fun(l0:List Int)=>ints 3 v2 l0::own) ((by rw[hy,show i=cr.toNat by omega];rfl:ys=wtF cr cd x))⟩)
theorem weightOf_w {W:World}{own:List Asn}{cr:Int}{vcd:Value}{cd:List Int}{vx:Value}{x:List Int}(scd:IsS vcd)(ecd:Ent own fun w=>Ints w vcd cd)(sx:IsS vx)(ex:Ent own fun w=>Ints w vx x)(hcr:1≤cr∧cr≤4)(hcd:(cd.length:Int)=cr*cr)(hx:(x.length:Int)=cr):Spec Tryz.prog 66 [.agg #[.int .i64 (cr),vcd],vx] W own (fun v ow=>∃ (r0:Value),v=r0∧IsS r0∧ow=ints 3 r0 (wtF cr cd x)::own):=by
 have hrl:(List.replicate (cr:Int).toNat (0:Int)).length=cr.toNat:=List.length_replicate
 refine Spec.enter Tryz.f66 _ Tryz.func66 rfl (n:=39) rfl rfl ?_
 refine Zs (Zr (G.step (OG.box (cs:=[.int .i64 (cr),vcd]) rfl rfl rfl) rfl rfl rfl ?_))
 rintro _ _ ⟨g1,rfl,rfl⟩
 refine Za rfl (Zn (Zt (Zs (Zr (Zd (OD.fieldAddr rfl rfl fa27_0) rfl ?_)))))
 refine Zd (OD.load rfl ti3 rfl (i:=0) rfl rfl) rfl ?_
 refine G.step (OG.makeInts rfl et22 rfl rfl (by omega)) rfl rfl rfl ?_
 rintro v2 _ ⟨hs3,rfl⟩
 refine Za rfl (Zn (Zt (Zs (Zs (Zr (Zm rfl (Zd (OD.len rfl rfl et22 rfl (Ent.ints (i:=0) rfl)) rfl ?_)))))))
 refine Zm rfl (Zn (Zt (GC.block ?_)))
 refine GC.loop (ι:=Nat × List Int) (fun⟨i,ys⟩=>[(1,vx),(2,.pointer (some ⟨g1,0,none⟩)),(5,v2),(13,.int .i64 (((List.replicate (cr:Int).toNat (0:Int)).length:Nat))),(14,.int .i64 ((i:Int)))]) (fun⟨i,ys⟩=>ints 3 v2 ys::box g1 27 [.int .i64 (cr),vcd]::own) (fun⟨i,ys⟩=>(i≤cr.toNat)∧(ys.length=cr.toNat)∧(ys=(List.range i).foldl (wtI cr cd x) (List.replicate cr.toNat 0))) (fun⟨i,ys⟩=>cr.toNat - i) (0,(List.replicate (cr:Int).toNat 0)) (⟨by omega,by simp,rfl⟩) ⟨rfl,rfl,rfl,rfl,rfl,trivial⟩ [] 0 rfl ?_
 rintro⟨i,ys⟩ ⟨hi,hyl,hy⟩
 refine Zs (Zr (Zd (OD.lss rfl rfl rfl) rfl ?_))
 refine Zn (Zt (Zs ?_))
 refine GC.cond rfl (fun hc4=>?_) (fun hc4=>?_)
 replace hc4:=of_decide_eq_true hc4
 refine Zk (Zt (Zs (GC.block (Zs (Zr ?_)))))
 refine Zm rfl (Za rfl (Zn (Zt (Zs (Zr (Zm rfl (Zd (OD.len rfl rfl et22 rfl (Ent.drop 2 ex)) rfl ?_)))))))
 refine Zm rfl (Zn (Zt (GC.block ?_)))
 refine GC.loop (ι:=Nat × List Int) (fun⟨j,zs⟩=>[(1,vx),(2,.pointer (some ⟨g1,0,none⟩)),(5,v2),(13,.int .i64 (((List.replicate (cr:Int).toNat (0:Int)).length:Nat))),(14,.int .i64 ((i:Int))),(6,.int .i64 ((i:Int))),(17,vx),(18,.int .i64 ((x.length:Nat))),(19,.int .i64 ((j:Int)))]) (fun⟨j,zs⟩=>ints 3 v2 zs::box g1 27 [.int .i64 (cr),vcd]::own) (fun⟨j,zs⟩=>(j≤x.length)∧(zs.length=cr.toNat)∧(zs=(List.range j).foldl (fun(o:List Int) (j:Nat)=>o.set i (IntKind.i64.wrap (o.getD i 0+IntKind.i64.wrap (atI cr cd i j*x.getD j 0)))) ys)) (fun⟨j,zs⟩=>x.length - j) (0,ys) (⟨by omega,hyl,rfl⟩) ⟨rfl,rfl,rfl,rfl,rfl,rfl,rfl,rfl,rfl,trivial⟩ [] 0 rfl ?_
 rintro⟨j,zs⟩ ⟨hj,hzl,hz⟩
 refine Zs (Zr (Zd (OD.lss rfl rfl rfl) rfl ?_))
 refine Zn (Zt (Zs ?_))
 refine GC.cond rfl (fun hc5=>?_) (fun hc5=>?_)
 replace hc5:=of_decide_eq_true hc5
 have hxx:=idx_bd (n:=cr) (i:=i) (j:=j) ⟨by omega,by omega⟩ ⟨by omega,by omega⟩ (by omega)
 refine Zk (Zt (Zs (GC.block (Zs (Zr ?_)))))
 refine Zm rfl (Zd (OD.indexAddr rfl et22 rfl (Ent.drop 2 ex) rfl (by omega)) rfl ?_)
 refine Zd (OD.loadInt rfl ti3 rfl (Ent.drop 2 ex) (by omega)) rfl ?_
 refine Za rfl (Za rfl (Zn (Zt (GC.at [] 0 (env':=[(1,vx),(2,.pointer (some ⟨g1,0,none⟩)),(5,v2),(13,.int .i64 (((List.replicate (cr:Int).toNat (0:Int)).length:Nat))),(14,.int .i64 ((i:Int))),(6,.int .i64 ((i:Int))),(17,vx),(18,.int .i64 ((x.length:Nat))),(19,.int .i64 ((j:Int))),(7,.int .i64 ((j:Int))),(8,.int .i64 (x.getD (j) 0))]) ⟨rfl,rfl,rfl,rfl,rfl,rfl,rfl,rfl,rfl,rfl,rfl,trivial⟩ rfl ?_))))
 refine GC.par (its:=[Z0 24 v2,
     Z0 25 (.int .i64 ((i:Int))),
     Z1 26 [(0,24),(1,25)] (elemPtr v2 1 (i)),
     Z1 27 [(2,26)] (.int .i64 (zs.getD (i) 0)),
     Z0 28 (.agg #[.int .i64 (cr),vcd]),
     Z0 29 (.int .i64 ((i:Int))),
     Z0 30 (.int .i64 ((j:Int))),
     Z1 31 [(4,28),(5,29),(6,30)] (.int .i64 (atI cr cd (i:Int) (j:Int))),
     Z0 32 (.int .i64 (x.getD (j) 0)),
     Z1 33 [(7,31),(8,32)] (.int .i64 (IntKind.i64.wrap ((atI cr cd (i:Int) (j:Int))*(x.getD (j) 0)))),
     Z1 34 [(3,27),(9,33)] (.int .i64 (IntKind.i64.wrap ((zs.getD (i) 0)+(IntKind.i64.wrap ((atI cr cd (i:Int) (j:Int))*(x.getD (j) 0)))))),
     Z1 35 [(0,24),(1,25)] (elemPtr v2 1 (i))]) (by kernel_rfl) (by kernel_rfl) (Zc ?_ (Zc ?_ (Zc ?_ (Zc ?_ (Zc ?_ (Zc ?_ (Zc ?_ (Zc ?_ (Zc ?_ (Zc ?_ (Zc ?_ (Zc ?_ POps.nil)))))))))))) ?_
 exact fun θ R hd=>Zq (OD.move rfl rfl) rfl
 exact fun θ R hd=>Zq (OD.move rfl rfl) rfl
 exact fun θ R ⟨h0d,h1d,_⟩=>Zq (OD.indexAddr rfl et22 rfl (Ent.ints (i:=0) rfl) rfl (by omega)) rfl
 exact fun θ R ⟨h2d,_⟩=>Zq (OD.loadInt rfl ti3 rfl (Ent.ints (i:=0) rfl) (by omega)) rfl
 exact fun θ R hd=>Zq (OD.loadAgg rfl ti27 rfl (i:=1) rfl (us:=[.int .i64 (cr),vcd]) rfl rfl) rfl
 exact fun θ R hd=>Zq (OD.move rfl rfl) rfl
 exact fun θ R hd=>Zq (OD.move rfl rfl) rfl
 exact fun θ R ⟨h4d,h5d,h6d,_⟩=>Zq (OG.call [.agg #[.int .i64 (cr),vcd],.int .i64 ((i:Int)),.int .i64 ((j:Int))] ent128 rfl rfl rfl rfl (by exact(at_w scd (Ent.drop 2 ecd.app) (by omega)))) rfl
 exact fun θ R hd=>Zq (OD.move rfl rfl) rfl
 exact fun θ R ⟨h7d,h8d,_⟩=>Zq (OD.mul rfl rfl rfl) rfl
 exact fun θ R ⟨h3d,h9d,_⟩=>Zq (OD.add rfl rfl rfl) rfl
 exact fun θ R ⟨h0d,h1d,_⟩=>Zq (OD.indexAddr rfl et22 rfl (Ent.ints (i:=0) rfl) rfl (by omega)) rfl
 intro θ hall
 obtain⟨_,_,_,_,_,_,_,_,_,_,_,_,_⟩:=hall
 refine G.at [] 0 (env':=[(1,vx),(2,.pointer (some ⟨g1,0,none⟩)),(5,v2),(13,.int .i64 (((List.replicate (cr:Int).toNat (0:Int)).length:Nat))),(14,.int .i64 ((i:Int))),(6,.int .i64 ((i:Int))),(17,vx),(18,.int .i64 ((x.length:Nat))),(19,.int .i64 ((j:Int))),(34,.int .i64 (IntKind.i64.wrap ((zs.getD (i) 0)+(IntKind.i64.wrap ((atI cr cd (i:Int) (j:Int))*(x.getD (j) 0)))))),(35,elemPtr v2 1 (i))]) ⟨rfl,rfl,rfl,rfl,rfl,rfl,rfl,rfl,rfl,rfl,rfl,trivial⟩ (own':=ints 3 v2 zs::box g1 27 [.int .i64 (cr),vcd]::own) rfl ?_
 show G _ _ _ [_] _ _ _ _
 refine G.stepD0 (OD.storeInt rfl ti3 rfl rfl (i:=0) rfl (by omega)) rfl rfl ?_
 refine Zn (GE.blockN (Zt (Zr ?_)))
 refine Zd (OD.addI rfl rfl rfl (by first | omega | (simp only[List.length_set,List.length_replicate];omega))) rfl ?_
 exact Zm rfl (Zn (GE.again (j+1,(zs).set (i) (IntKind.i64.wrap ((zs.getD (i) 0)+(IntKind.i64.wrap ((atI cr cd (i:Int) (j:Int))*(x.getD (j) 0)))))) (⟨by omega,by rw[List.length_set];exact hzl,fold_next hz rfl⟩) (by first | omega | (dsimp only;omega)) ⟨rfl,rfl,rfl,rfl,rfl,rfl,rfl,rfl,rfl,trivial⟩ [] 0 rfl))
 replace hc5:=of_decide_eq_false hc5
 refine GC.exit (Zp (Zp (GE.hit (GE.blockN (Zt (Zr ?_))))))
 refine Zd (OD.addI rfl rfl rfl (by omega)) rfl ?_
 exact Zm rfl (Zn (GE.again (i+1,zs) (⟨by omega,hzl,fold_next hy (by rw[hz,show j=x.length by omega];rfl)⟩) (by first | omega | (dsimp only;omega)) ⟨rfl,rfl,rfl,rfl,rfl,trivial⟩ [] 0 rfl))
 replace hc4:=of_decide_eq_false hc4
 refine GC.exit (Zp (Zp (GE.hit (Zt (Zs (Zr ?_))))))
 refine Zm rfl (Za rfl (Zn (Zt (GC.ret ?_))))
 exact GE.body [0] 1 (res1 rfl rfl) rfl (⟨v2,rfl,hs3,congrArg (fun(l0:List Int)=>ints 3 v2 l0::own) ((by rw[hy,show i=cr.toNat by omega];rfl:ys=wtF cr cd x))⟩)
theorem l5Simple_w {W:World}{own:List Asn}{cr:Int}{vcd:Value}{cd:List Int}{i:Int}{vx:Value}{x:List Int}(scd:IsS vcd)(ecd:Ent own fun w=>Ints w vcd cd)(sx:IsS vx)(ex:Ent own fun w=>Ints w vx x)(hcr:1≤cr∧cr≤4)(hcd:(cd.length:Int)=cr*cr)(hi:0≤i∧i<cr)(hw:(x.length:Int)=cr):Spec Tryz.prog 94 [.agg #[.int .i64 (cr),vcd],.int .i64 (i),vx] W own (fun v ow=>∃ (r0:Value),v=r0∧IsS r0∧ow=ints 3 r0 (arI cr cd i x)::own):=by
 have hwl:=wtF_len cr cd x
 refine Spec.enter Tryz.f94 _ Tryz.func94 rfl (n:=25) rfl rfl ?_
 refine Zs (Zr (G.step (OG.box (cs:=[.int .i64 (cr),vcd]) rfl rfl rfl) rfl rfl rfl ?_))
 rintro _ _ ⟨g1,rfl,rfl⟩
 refine Za rfl (Zn (Zt (Zs (Zr (Zm rfl (G.step (OG.call [vx] ent108 rfl rfl rfl rfl (by exact(l1Ints_w sx (Ent.drop 1 ex) (by omega)))) rfl rfl rfl ?_))))))
 rintro v2 _ ⟨_,rfl,hs3,rfl⟩
 refine Za rfl (Zn (Zt (Zs (GC.at [] 0 (env':=[(1,.int .i64 (i)),(2,vx),(3,.pointer (some ⟨g1,0,none⟩)),(7,v2)]) ⟨rfl,rfl,rfl,rfl,trivial⟩ rfl ?_))))
 refine GC.par (its:=[Z0 10 v2,
     Z0 11 (.int .i64 (i)),
     Z0 12 v2,
     Z0 13 (.int .i64 (i)),
     Z1 14 [(2,12),(3,13)] (elemPtr v2 1 ((i:Int).toNat)),
     Z1 15 [(4,14)] (.int .i64 (x.getD ((i:Int).toNat) 0)),
     Z0 16 (.agg #[.int .i64 (cr),vcd]),
     Z0 17 vx,
     ⟨18,[(6,16),(7,17)],[],[],[8],fun ds=>((ds.getD 0 []).getD 0 undef),fun ds=>IsS ((ds.getD 0 []).getD 0 undef),fun ds=>[ints 3 ((ds.getD 0 []).getD 0 undef) (wtF cr cd x)]⟩,
     Z0 19 (.int .i64 (i)),
     ⟨20,[(8,18),(9,19)],[8],[],[8],fun ds=>elemPtr (((ds.getD 0 []).getD 0 undef)) 1 ((i:Int).toNat),fun _=>True,fun _=>[]⟩,
     ⟨21,[(10,20)],[8],[],[8],fun _ => .int .i64 ((wtF cr cd x).getD ((i:Int).toNat) 0),fun _=>True,fun _=>[]⟩,
     ⟨22,[(5,15),(11,21)],[8],[],[8],fun _ => .int .i64 (IntKind.i64.wrap ((x.getD ((i:Int).toNat) 0) - ((wtF cr cd x).getD ((i:Int).toNat) 0))),fun _=>True,fun _=>[]⟩,
     Z1 23 [(0,10),(1,11)] (elemPtr v2 1 ((i:Int).toNat))]) (by kernel_rfl) (by kernel_rfl) (Zc ?_ (Zc ?_ (Zc ?_ (Zc ?_ (Zc ?_ (Zc ?_ (Zc ?_ (Zc ?_ (Zc ?_ (Zc ?_ (Zc ?_ (Zc ?_ (Zc ?_ (Zc ?_ POps.nil)))))))))))))) ?_
 exact fun θ R hd=>Zq (OD.move rfl rfl) rfl
 exact fun θ R hd=>Zq (OD.move rfl rfl) rfl
 exact fun θ R hd=>Zq (OD.move rfl rfl) rfl
 exact fun θ R hd=>Zq (OD.move rfl rfl) rfl
 exact fun θ R ⟨h2d,h3d,_⟩=>Zq (OD.indexAddr rfl et22 rfl (Ent.ints (i:=0) rfl) rfl (by omega)) rfl
 exact fun θ R ⟨h4d,_⟩=>Zq (OD.loadInt rfl ti3 rfl (Ent.ints (i:=0) rfl) (by omega)) rfl
 exact fun θ R hd=>Zq (OD.loadAgg rfl ti27 rfl (i:=1) rfl (us:=[.int .i64 (cr),vcd]) rfl rfl) rfl
 exact fun θ R hd=>Zq (OD.move rfl rfl) rfl
 exact fun θ R ⟨h6d,h7d,_⟩=>Opp.plain (OG.imp (OG.call [.agg #[.int .i64 (cr),vcd],vx] ent124 rfl rfl rfl rfl (by exact(l5Weight_w scd (Ent.drop 2 ecd.app) sx (Ent.drop 2 ex.app) (hcr) (hcd) (hw)))) (by rintro v4 _ ⟨_,rfl,hs5,rfl⟩;exact⟨[v4],rfl,hs5,rfl⟩)) rfl
 exact fun θ R hd=>Zq (OD.move rfl rfl) rfl
 exact fun θ R ⟨h8d,h9d,_⟩=>Zq (OD.indexAddr rfl et22 rfl (Ent.ints (i:=0) rfl) rfl (by omega)) rfl
 exact fun θ R ⟨h10d,_⟩=>Zq (OD.loadInt rfl ti3 rfl (Ent.ints (i:=0) rfl) (by omega)) rfl
 exact fun θ R ⟨h5d,h11d,_⟩=>Zq (OD.sub rfl rfl rfl) rfl
 exact fun θ R ⟨h0d,h1d,_⟩=>Zq (OD.indexAddr rfl et22 rfl (Ent.ints (i:=0) rfl) rfl (by omega)) rfl
 intro θ hall
 obtain⟨_,_,_,_,_,_,_,_,h8a,_,_,_,_,_,_⟩:=hall
 refine G.at [] 0 (env':=[(7,v2),(22,.int .i64 (IntKind.i64.wrap ((x.getD ((i:Int).toNat) 0) - ((wtF cr cd x).getD ((i:Int).toNat) 0)))),(23,elemPtr v2 1 ((i:Int).toNat))]) ⟨rfl,rfl,rfl,trivial⟩ (own':=ints 3 ((θ 8).getD 0 undef) (wtF cr cd x)::ints 3 v2 x::box g1 27 [.int .i64 (cr),vcd]::own) rfl ?_
 have hs6:IsS ((θ 8).getD 0 undef):=h8a
 clear h8a
 generalize ((θ 8).getD 0 undef)=v7 at *
 show G _ _ _ [_] _ _ _ _
 refine G.stepD0 (OD.storeInt rfl ti3 rfl rfl (i:=1) rfl (by omega)) rfl rfl ?_
 refine Zn (Zt (Zs (Zr (Zm rfl (Za rfl (Zn (Zt (GC.ret ?_))))))))
 exact GE.body [1] 2 (res1 rfl rfl) rfl (⟨v2,rfl,hs3,rfl⟩)
end Go.Proofs.YtbmnnbglipkidaaGreatDoor
