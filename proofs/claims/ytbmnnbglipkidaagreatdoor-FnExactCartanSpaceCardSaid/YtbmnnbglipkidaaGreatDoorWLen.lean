/-
  Lengths and inner products: contracts by walks.
-/
import Derived.Test.YtbmnnbglipkidaaGreatDoorFct
import Derived.Test.YtbmnnbglipkidaaGreatDoorWNewA
namespace Go.Proofs.YtbmnnbglipkidaaGreatDoor
set_option maxRecDepth 100000
set_option linter.unusedVariables false
set_option linter.unusedSimpArgs false
open Go.RowKit
theorem ent120:∀ us w,(callFunc 120 us).run Tryz.prog w = .ok (.enter 120 us) w:=fun us w=>by kernel_rfl
set_option maxHeartbeats 4000000 in
theorem lengths_w {W:World}{own:List Asn}{cr:Int}{vcd:Value}{cd:List Int}(scd:IsS vcd)(ecd:Ent own fun w=>Ints w vcd cd)(hty:(tyS cr cd).isSome=true):Spec Tryz.prog 120 [.agg #[.int .i64 (cr),vcd]] W own (fun v ow=>∃ (r0:Value),v=r0∧IsS r0∧ow=ints 3 r0 (lenF cr cd)::own):=by
 have hcr:=(tyS_ok hty).1
 have hcd:=(tyS_ok hty).2
 have hlen:=len_ok hty
 have hrl:(List.replicate (cr:Int).toNat (0:Int)).length=cr.toNat:=List.length_replicate
 refine Spec.enter Tryz.f120 _ Tryz.func120 rfl (n:=121) rfl rfl ?_
 refine Zs (Zr (G.step (OG.box (cs:=[.int .i64 (cr),vcd]) rfl rfl rfl) rfl rfl rfl ?_))
 rintro _ _ ⟨g1,rfl,rfl⟩
 refine Za rfl (Zn (Zt (Zs (Zr (Zd (OD.fieldAddr rfl rfl fa27_0) rfl ?_)))))
 refine Zd (OD.load rfl ti3 rfl (i:=0) rfl rfl) rfl ?_
 refine G.step (OG.makeInts rfl et22 rfl rfl (by omega)) rfl rfl rfl ?_
 rintro v2 _ ⟨hs3,rfl⟩
 refine Za rfl (Zn (Zt (Zs (Zs (Zr (Zm rfl (Zd (OD.len rfl rfl et22 rfl (Ent.ints (i:=0) rfl)) rfl ?_)))))))
 refine Zm rfl (Zn (Zt (GC.block ?_)))
 refine GC.loop (ι:=Nat × List Int) (fun⟨i,ys⟩=>[(1,.pointer (some ⟨g1,0,none⟩)),(3,v2),(17,.int .i64 (((List.replicate (cr:Int).toNat (0:Int)).length:Nat))),(18,.int .i64 ((i:Int)))]) (fun⟨i,ys⟩=>ints 3 v2 ys::box g1 27 [.int .i64 (cr),vcd]::own) (fun⟨i,ys⟩=>(i≤cr.toNat)∧(ys.length=cr.toNat)∧(liO cr cd (cr.toNat - i) i ys=some (lenF cr cd))) (fun⟨i,ys⟩=>cr.toNat - i) (0,(List.replicate (cr:Int).toNat 0)) (⟨by omega,hrl,hlen.2.1⟩) ⟨rfl,rfl,rfl,rfl,trivial⟩ [] 0 rfl ?_
 rintro⟨i,ys⟩ ⟨hi,hyl,hy⟩
 refine Zs (Zr (Zd (OD.lss rfl rfl rfl) rfl ?_))
 refine Zn (Zt (Zs ?_))
 refine GC.cond rfl (fun hc4=>?_) (fun hc4=>?_)
 replace hc4:=of_decide_eq_true hc4
 refine Zk (Zt (Zs (GC.block (Zs (Zr ?_)))))
 refine Zm rfl (Za rfl (Zn (Zt (Zs (Zs (Zr (Zm rfl (Zm rfl (Zd (OD.indexAddr rfl et22 rfl (Ent.ints (i:=0) rfl) rfl (by omega)) rfl ?_)))))))))
 refine Zd (OD.loadInt rfl ti3 rfl (Ent.ints (i:=0) rfl) (by omega)) rfl ?_
 refine Zd (OD.neq rfl rfl rfl) rfl ?_
 refine Zn (Zt ?_)
 refine GC.cond rfl (fun hc5=>?_) (fun hc5=>?_)
 replace hc5:=ne_of_bne hc5
 refine GC.exit (Zp (GE.hit (Zt (Zr ?_))))
 refine Zd (OD.addI rfl rfl rfl (by omega)) rfl ?_
 exact Zm rfl (Zn (GE.again (i+1,ys) (⟨by omega,hyl,liO_no hy (by omega) hc5⟩) (by first | omega | (dsimp only;omega)) ⟨rfl,rfl,rfl,rfl,trivial⟩ [] 0 rfl))
 replace hc5:=eq_of_bne_false hc5
 refine Zk (Zt (Zs (Zr (Zm rfl (G.step (OG.buildInts (xs:=[.tmp 26]) (is:=[(i:Int)]) rfl et22 rfl rfl rfl rfl rfl) rfl rfl rfl ?_)))))
 rintro v6 _ ⟨hs7,rfl⟩
 refine Za rfl (Zn (Zt (Zs (Zr (Zm rfl (Zm rfl (Zd (OD.indexAddr rfl et22 rfl (Ent.ints (i:=1) rfl) rfl (by omega)) rfl ?_)))))))
 refine G.stepD0 (OD.storeInt rfl ti3 rfl rfl (i:=1) rfl (by omega)) rfl rfl ?_
 refine Zn (Zt (Zs (Zs (Zr (Za rfl (Zn (Zt (GC.block ?_))))))))
 obtain⟨y1,p1,z1,hk0,hdv,hrest⟩:=liO_yes hy (by omega) hc5
 refine GC.loop (ι:=Nat × Nat × List Int × List Int × Value) (fun⟨k,g,zs,ps,bv⟩=>[(1,.pointer (some ⟨g1,0,none⟩)),(3,v2),(17,.int .i64 (((List.replicate (cr:Int).toNat (0:Int)).length:Nat))),(18,.int .i64 ((i:Int))),(4,.int .i64 ((i:Int))),(5,bv),(6,.int .i64 ((k:Int)))]) (fun⟨k,g,zs,ps,bv⟩=>ints 3 bv ps::ints 3 v2 zs::box g1 27 [.int .i64 (cr),vcd]::own) (fun⟨k,g,zs,ps,bv⟩=>(zs.length=cr.toNat)∧(liK cr cd g k zs ps=some (y1,p1))∧(∀ y∈ps,0≤y∧y<cr)∧(ps.length+4*g≤25)∧(k≤ps.length)∧(IsS bv)) (fun⟨k,g,zs,ps,bv⟩=>g) (0,6,(ys.set i 36),[(i:Int)],v6) (⟨by rw[List.length_set];exact hyl,hk0,by intro x hx;simp only[List.mem_singleton] at hx;omega,by simp,by simp,hs7⟩) ⟨rfl,rfl,rfl,rfl,rfl,rfl,rfl,trivial⟩ [] 0 rfl ?_
 rintro⟨k,g,zs,ps,bv⟩ ⟨hzl,hz,hps,hpl,hkp,hbv⟩
 refine Zs (Zs (Zr (Zm rfl (Zm rfl (Zd (OD.len rfl rfl et22 rfl (Ent.ints (i:=0) rfl)) rfl ?_)))))
 refine Zd (OD.lss rfl rfl rfl) rfl ?_
 refine Zn (Zt ?_)
 refine GC.cond rfl (fun hc8=>?_) (fun hc8=>?_)
 replace hc8:=of_decide_eq_true hc8
 have hr:=getD_rng hps (k:=k) (by omega)
 have hr0:=getD_rng hps (k:=(k:Int).toNat) (by omega)
 refine Zk (Zt (Zs (GC.block (Zs (Zr ?_)))))
 refine Zm rfl (Zd (OD.len rfl rfl et22 rfl (Ent.ints (i:=1) rfl)) rfl ?_)
 refine Zm rfl (Zn (Zt (GC.block ?_)))
 obtain⟨g2,o2,q2,hg2,hj0,hk1⟩:=liK_step hz (by omega)
 refine GC.loop (ι:=Nat × List Int × List Int × Value) (fun⟨j,us,qs,bw⟩=>[(1,.pointer (some ⟨g1,0,none⟩)),(3,v2),(17,.int .i64 (((List.replicate (cr:Int).toNat (0:Int)).length:Nat))),(18,.int .i64 ((i:Int))),(4,.int .i64 ((i:Int))),(6,.int .i64 ((k:Int))),(38,.int .i64 ((zs.length:Nat))),(5,bw),(39,.int .i64 ((j:Int)))]) (fun⟨j,us,qs,bw⟩=>ints 3 bw qs::ints 3 v2 us::box g1 27 [.int .i64 (cr),vcd]::own) (fun⟨j,us,qs,bw⟩=>(j≤cr.toNat)∧(us.length=cr.toNat)∧(liJ cr cd k (cr.toNat - j) j us qs=some (o2,q2))∧(∀ y∈qs,0≤y∧y<cr)∧(qs.length≤ps.length+j)∧(k<qs.length)∧(IsS bw)) (fun⟨j,us,qs,bw⟩=>cr.toNat - j) (0,zs,ps,bv) (⟨by omega,hzl,hj0,hps,by omega,by omega,hbv⟩) ⟨rfl,rfl,rfl,rfl,rfl,rfl,rfl,rfl,rfl,trivial⟩ [] 0 rfl ?_
 rintro⟨j,us,qs,bw⟩ ⟨hj,hul,hu,hqs,hql,hkq,hbw⟩
 refine Zs (Zr (Zd (OD.lss rfl rfl rfl) rfl ?_))
 refine Zn (Zt (Zs ?_))
 refine GC.cond rfl (fun hc9=>?_) (fun hc9=>?_)
 replace hc9:=of_decide_eq_true hc9
 have hr:=getD_rng hqs (k:=k) (by omega)
 have hr0:=getD_rng hqs (k:=(k:Int).toNat) (by omega)
 have hx1:=idx_bd (n:=cr) (i:=qs.getD k 0) (j:=j) ⟨by omega,by omega⟩ ⟨by omega,by omega⟩ (by omega)
 have hx2:=idx_bd (n:=cr) (i:=j) (j:=qs.getD k 0) ⟨by omega,by omega⟩ ⟨by omega,by omega⟩ (by omega)
 refine Zk (Zt (Zs (GC.block (Zs (Zr ?_)))))
 refine Zm rfl (Za rfl (Zn (Zt (Zs ?_))))
 rcases Bool.eq_false_or_eq_true ((us.getD (j) 0)==0) with hg10 | hg10
 have hg10p:=hg10
 replace hg10p:=eq_of_beq hg10p
 refine GC.at [] 0 (env':=[(1,.pointer (some ⟨g1,0,none⟩)),(3,v2),(17,.int .i64 (((List.replicate (cr:Int).toNat (0:Int)).length:Nat))),(18,.int .i64 ((i:Int))),(4,.int .i64 ((i:Int))),(6,.int .i64 ((k:Int))),(38,.int .i64 ((zs.length:Nat))),(5,bw),(39,.int .i64 ((j:Int))),(7,.int .i64 ((j:Int)))]) ⟨rfl,rfl,rfl,rfl,rfl,rfl,rfl,rfl,rfl,rfl,trivial⟩ rfl ?_
 refine GC.par (its:=[Z0 42 v2,
     Z0 43 (.int .i64 ((j:Int))),
     Z1 44 [(0,42),(1,43)] (elemPtr v2 1 (j)),
     Z1 45 [(2,44)] (.int .i64 (us.getD (j) 0)),
     Z1 46 [(3,45)] (.bool true),
     Z1 47 [(4,46)] (.bool true),
     Z1 48 [(5,47)] (.agg #[.int .i64 (cr),vcd]),
     Z1 49 [(5,47)] bw,
     Z1 50 [(5,47)] (.int .i64 ((k:Int))),
     Z1 51 [(5,47),(7,49),(8,50)] (elemPtr bw 1 (k)),
     Z1 52 [(5,47),(9,51)] (.int .i64 (qs.getD (k) 0)),
     Z1 53 [(5,47)] (.int .i64 ((j:Int))),
     Z1 54 [(5,47),(6,48),(10,52),(11,53)] (.int .i64 (atI cr cd (qs.getD (k) 0) (j:Int))),
     Z1 55 [(5,47),(12,54)] (.bool ((atI cr cd (qs.getD (k) 0) (j:Int)) != 0)),
     Z1 56 [(5,47),(13,55)] (.bool ((atI cr cd (qs.getD (k) 0) (j:Int)) != 0))]) (by kernel_rfl) (by kernel_rfl) (Zc ?_ (Zc ?_ (Zc ?_ (Zc ?_ (Zc ?_ (Zc ?_ (Zc ?_ (Zc ?_ (Zc ?_ (Zc ?_ (Zc ?_ (Zc ?_ (Zc ?_ (Zc ?_ (Zc ?_ POps.nil))))))))))))))) ?_
 exact fun θ R hd=>Zq (OD.move rfl rfl) rfl
 exact fun θ R hd=>Zq (OD.move rfl rfl) rfl
 exact fun θ R ⟨h0d,h1d,_⟩=>Zq (OD.indexAddr rfl et22 rfl (Ent.ints (i:=1) rfl) rfl (by omega)) rfl
 exact fun θ R ⟨h2d,_⟩=>Zq (OD.loadInt rfl ti3 rfl (Ent.ints (i:=1) rfl) (by omega)) rfl
 exact fun θ R ⟨h3d,_⟩=>Opp.plain (OG.imp (OD.eql rfl rfl rfl) (by rintro _ _ ⟨rfl,rfl⟩;exact⟨[],congrArg Value.bool hg10,trivial,rfl⟩)) rfl
 exact fun θ R ⟨h4d,_⟩=>Zq (OD.move rfl rfl) rfl
 exact fun θ R ⟨h5d,_⟩=>Zo (OD.loadAgg rfl ti27 rfl (i:=2) rfl (us:=[.int .i64 (cr),vcd]) rfl rfl) rfl rfl rfl rfl trivial rfl
 exact fun θ R ⟨h5d,_⟩=>Zo (OD.move rfl rfl) rfl rfl rfl rfl trivial rfl
 exact fun θ R ⟨h5d,_⟩=>Zo (OD.move rfl rfl) rfl rfl rfl rfl trivial rfl
 exact fun θ R ⟨h5d,h7d,h8d,_⟩=>Zo (OD.indexAddr rfl et22 rfl (Ent.ints (i:=0) rfl) rfl (by omega)) rfl rfl rfl rfl trivial rfl
 exact fun θ R ⟨h5d,h9d,_⟩=>Zo (OD.loadInt rfl ti3 rfl (Ent.ints (i:=0) rfl) (by omega)) rfl rfl rfl rfl trivial rfl
 exact fun θ R ⟨h5d,_⟩=>Zo (OD.move rfl rfl) rfl rfl rfl rfl trivial rfl
 exact fun θ R ⟨h5d,h6d,h10d,h11d,_⟩=>Zo (OG.call [.agg #[.int .i64 (cr),vcd],.int .i64 (qs.getD (k) 0),.int .i64 ((j:Int))] ent128 rfl rfl rfl rfl (by exact(at_w scd (Ent.drop 3 ecd.app) (by omega)))) rfl rfl rfl rfl trivial rfl
 exact fun θ R ⟨h5d,h12d,_⟩=>Zo (OD.neq rfl rfl rfl) rfl rfl rfl rfl trivial rfl
 exact fun θ R ⟨h5d,h13d,_⟩=>Zq (OD.pickT rfl rfl rfl) rfl
 intro θ hall
 obtain⟨_,_,_,_,_,_,_,_,_,_,_,_,_,_,_,_⟩:=hall
 refine G.at [] 0 (env':=[(1,.pointer (some ⟨g1,0,none⟩)),(3,v2),(17,.int .i64 (((List.replicate (cr:Int).toNat (0:Int)).length:Nat))),(18,.int .i64 ((i:Int))),(4,.int .i64 ((i:Int))),(6,.int .i64 ((k:Int))),(38,.int .i64 ((zs.length:Nat))),(5,bw),(39,.int .i64 ((j:Int))),(7,.int .i64 ((j:Int))),(56,.bool ((atI cr cd (qs.getD (k) 0) (j:Int)) != 0))]) ⟨rfl,rfl,rfl,rfl,rfl,rfl,rfl,rfl,rfl,rfl,rfl,trivial⟩ (own':=ints 3 bw qs::ints 3 v2 us::box g1 27 [.int .i64 (cr),vcd]::own) rfl ?_
 show G _ _ _ [] _ _ _ _
 refine Zn (Zt ?_)
 refine GC.cond rfl (fun hc11=>?_) (fun hc11=>?_)
 replace hc11:=ne_of_bne hc11
 have hqq:=liJ_yes hu (by omega) (eq_of_beq hg10) hc11
 refine Zs (GC.at [] 0 (env':=[(1,.pointer (some ⟨g1,0,none⟩)),(3,v2),(17,.int .i64 (((List.replicate (cr:Int).toNat (0:Int)).length:Nat))),(18,.int .i64 ((i:Int))),(4,.int .i64 ((i:Int))),(6,.int .i64 ((k:Int))),(38,.int .i64 ((zs.length:Nat))),(5,bw),(39,.int .i64 ((j:Int))),(7,.int .i64 ((j:Int)))]) ⟨rfl,rfl,rfl,rfl,rfl,rfl,rfl,rfl,rfl,rfl,trivial⟩ rfl ?_)
 refine GC.par (its:=[Z0 57 v2,
     Z0 58 (.int .i64 ((j:Int))),
     Z0 59 v2,
     Z0 60 bw,
     Z0 61 (.int .i64 ((k:Int))),
     Z1 62 [(3,60),(4,61)] (elemPtr bw 1 (k)),
     Z1 63 [(5,62)] (.int .i64 (qs.getD (k) 0)),
     Z1 64 [(2,59),(6,63)] (elemPtr v2 1 ((qs.getD (k) 0:Int).toNat)),
     Z1 65 [(7,64)] (.int .i64 (us.getD ((qs.getD (k) 0:Int).toNat) 0)),
     Z0 66 (.agg #[.int .i64 (cr),vcd]),
     Z0 67 bw,
     Z0 68 (.int .i64 ((k:Int))),
     Z1 69 [(10,67),(11,68)] (elemPtr bw 1 (k)),
     Z1 70 [(12,69)] (.int .i64 (qs.getD (k) 0)),
     Z0 71 (.int .i64 ((j:Int))),
     Z1 72 [(9,66),(13,70),(14,71)] (.int .i64 (atI cr cd (qs.getD (k) 0) (j:Int))),
     Z1 73 [(8,65),(15,72)] (.int .i64 (IntKind.i64.wrap ((us.getD ((qs.getD (k) 0:Int).toNat) 0)*(atI cr cd (qs.getD (k) 0) (j:Int))))),
     Z0 74 (.agg #[.int .i64 (cr),vcd]),
     Z0 75 (.int .i64 ((j:Int))),
     Z0 76 bw,
     Z0 77 (.int .i64 ((k:Int))),
     Z1 78 [(19,76),(20,77)] (elemPtr bw 1 (k)),
     Z1 79 [(21,78)] (.int .i64 (qs.getD (k) 0)),
     Z1 80 [(17,74),(18,75),(22,79)] (.int .i64 (atI cr cd (j:Int) (qs.getD (k) 0))),
     Z1 81 [(16,73),(23,80)] (.int .i64 (IntKind.i64.wrap ((IntKind.i64.wrap ((us.getD ((qs.getD (k) 0:Int).toNat) 0)*(atI cr cd (qs.getD (k) 0) (j:Int)))).tdiv (atI cr cd (j:Int) (qs.getD (k) 0))))),
     Z1 82 [(0,57),(1,58)] (elemPtr v2 1 (j))]) (by kernel_rfl) (by kernel_rfl) (Zc ?_ (Zc ?_ (Zc ?_ (Zc ?_ (Zc ?_ (Zc ?_ (Zc ?_ (Zc ?_ (Zc ?_ (Zc ?_ (Zc ?_ (Zc ?_ (Zc ?_ (Zc ?_ (Zc ?_ (Zc ?_ (Zc ?_ (Zc ?_ (Zc ?_ (Zc ?_ (Zc ?_ (Zc ?_ (Zc ?_ (Zc ?_ (Zc ?_ (Zc ?_ POps.nil)))))))))))))))))))))))))) ?_
 exact fun θ R hd=>Zq (OD.move rfl rfl) rfl
 exact fun θ R hd=>Zq (OD.move rfl rfl) rfl
 exact fun θ R hd=>Zq (OD.move rfl rfl) rfl
 exact fun θ R hd=>Zq (OD.move rfl rfl) rfl
 exact fun θ R hd=>Zq (OD.move rfl rfl) rfl
 exact fun θ R ⟨h3d,h4d,_⟩=>Zq (OD.indexAddr rfl et22 rfl (Ent.ints (i:=0) rfl) rfl (by omega)) rfl
 exact fun θ R ⟨h5d,_⟩=>Zq (OD.loadInt rfl ti3 rfl (Ent.ints (i:=0) rfl) (by omega)) rfl
 exact fun θ R ⟨h2d,h6d,_⟩=>Zq (OD.indexAddr rfl et22 rfl (Ent.ints (i:=1) rfl) rfl (by omega)) rfl
 exact fun θ R ⟨h7d,_⟩=>Zq (OD.loadInt rfl ti3 rfl (Ent.ints (i:=1) rfl) (by omega)) rfl
 exact fun θ R hd=>Zq (OD.loadAgg rfl ti27 rfl (i:=2) rfl (us:=[.int .i64 (cr),vcd]) rfl rfl) rfl
 exact fun θ R hd=>Zq (OD.move rfl rfl) rfl
 exact fun θ R hd=>Zq (OD.move rfl rfl) rfl
 exact fun θ R ⟨h10d,h11d,_⟩=>Zq (OD.indexAddr rfl et22 rfl (Ent.ints (i:=0) rfl) rfl (by omega)) rfl
 exact fun θ R ⟨h12d,_⟩=>Zq (OD.loadInt rfl ti3 rfl (Ent.ints (i:=0) rfl) (by omega)) rfl
 exact fun θ R hd=>Zq (OD.move rfl rfl) rfl
 exact fun θ R ⟨h9d,h13d,h14d,_⟩=>Zq (OG.call [.agg #[.int .i64 (cr),vcd],.int .i64 (qs.getD (k) 0),.int .i64 ((j:Int))] ent128 rfl rfl rfl rfl (by exact(at_w scd (Ent.drop 3 ecd.app) (by omega)))) rfl
 exact fun θ R ⟨h8d,h15d,_⟩=>Zq (OD.mul rfl rfl rfl) rfl
 exact fun θ R hd=>Zq (OD.loadAgg rfl ti27 rfl (i:=2) rfl (us:=[.int .i64 (cr),vcd]) rfl rfl) rfl
 exact fun θ R hd=>Zq (OD.move rfl rfl) rfl
 exact fun θ R hd=>Zq (OD.move rfl rfl) rfl
 exact fun θ R hd=>Zq (OD.move rfl rfl) rfl
 exact fun θ R ⟨h19d,h20d,_⟩=>Zq (OD.indexAddr rfl et22 rfl (Ent.ints (i:=0) rfl) rfl (by omega)) rfl
 exact fun θ R ⟨h21d,_⟩=>Zq (OD.loadInt rfl ti3 rfl (Ent.ints (i:=0) rfl) (by omega)) rfl
 exact fun θ R ⟨h17d,h18d,h22d,_⟩=>Zq (OG.call [.agg #[.int .i64 (cr),vcd],.int .i64 ((j:Int)),.int .i64 (qs.getD (k) 0)] ent128 rfl rfl rfl rfl (by exact(at_w scd (Ent.drop 3 ecd.app) (by omega)))) rfl
 exact fun θ R ⟨h16d,h23d,_⟩=>Zq (OD.quo rfl rfl rfl (hqq.1)) rfl
 exact fun θ R ⟨h0d,h1d,_⟩=>Zq (OD.indexAddr rfl et22 rfl (Ent.ints (i:=1) rfl) rfl (by omega)) rfl
 intro θ hall
 obtain⟨_,_,_,_,_,_,_,_,_,_,_,_,_,_,_,_,_,_,_,_,_,_,_,_,_,_,_⟩:=hall
 refine G.at [] 0 (env':=[(1,.pointer (some ⟨g1,0,none⟩)),(3,v2),(17,.int .i64 (((List.replicate (cr:Int).toNat (0:Int)).length:Nat))),(18,.int .i64 ((i:Int))),(4,.int .i64 ((i:Int))),(6,.int .i64 ((k:Int))),(38,.int .i64 ((zs.length:Nat))),(5,bw),(39,.int .i64 ((j:Int))),(7,.int .i64 ((j:Int))),(81,.int .i64 (IntKind.i64.wrap ((IntKind.i64.wrap ((us.getD ((qs.getD (k) 0:Int).toNat) 0)*(atI cr cd (qs.getD (k) 0) (j:Int)))).tdiv (atI cr cd (j:Int) (qs.getD (k) 0))))),(82,elemPtr v2 1 (j))]) ⟨rfl,rfl,rfl,rfl,rfl,rfl,rfl,rfl,rfl,rfl,rfl,rfl,trivial⟩ (own':=ints 3 bw qs::ints 3 v2 us::box g1 27 [.int .i64 (cr),vcd]::own) rfl ?_
 show G _ _ _ [_] _ _ _ _
 refine G.stepD0 (OD.storeInt rfl ti3 rfl rfl (i:=1) rfl (by omega)) rfl rfl ?_
 refine Zn (Zt (Zr (Zm rfl (Zm rfl (G.step (OG.buildInts (xs:=[.tmp 84]) (is:=[(j:Int)]) rfl et22 rfl rfl rfl rfl rfl) rfl rfl rfl ?_)))))
 rintro v12 _ ⟨hs13,rfl⟩
 refine G.step (OG.appendInts 1 rfl rfl et22 rfl rfl rfl (Ent.ints (i:=0) rfl) (by first | omega | (simp;omega))) rfl rfl rfl ?_
 rintro v14 _ ⟨hs15,rfl⟩
 refine Za rfl (Zn (GE.blockN (Zt (Zr ?_))))
 refine Zd (OD.addI rfl rfl rfl (by first | omega | (simp only[List.length_set,List.length_replicate];omega))) rfl ?_
 refine Zm rfl (Zn ?_)
 exact GE.again (j+1,(us).set (j) (IntKind.i64.wrap ((IntKind.i64.wrap ((us.getD ((qs.getD (k) 0:Int).toNat) 0)*(atI cr cd (qs.getD (k) 0) (j:Int)))).tdiv (atI cr cd (j:Int) (qs.getD (k) 0)))),qs++[(j:Int)],v14) (⟨by omega,by rw[List.length_set];exact hul,hqq.2,rng_snoc hqs ⟨by omega,by omega⟩,by rw[List.length_append,List.length_singleton];omega,by rw[List.length_append,List.length_singleton];omega,hs15⟩) (by first | omega | (dsimp only;omega)) ⟨rfl,rfl,rfl,rfl,rfl,rfl,rfl,rfl,rfl,trivial⟩ [1,1,1] 1 rfl
 replace hc11:=eq_of_bne_false hc11
 refine Zk (GE.blockN (Zt (Zr ?_)))
 refine Zd (OD.addI rfl rfl rfl (by omega)) rfl ?_
 exact Zm rfl (Zn (GE.again (j+1,us,qs,bw) (⟨by omega,hul,liJ_no hu (by omega) (and_no2 hc11),hqs,by omega,hkq,hbw⟩) (by first | omega | (dsimp only;omega)) ⟨rfl,rfl,rfl,rfl,rfl,rfl,rfl,rfl,rfl,trivial⟩ [] 0 rfl))
 have hg10p:=hg10
 replace hg10p:=ne_of_beq_false hg10p
 refine GC.at [] 0 (env':=[(1,.pointer (some ⟨g1,0,none⟩)),(3,v2),(17,.int .i64 (((List.replicate (cr:Int).toNat (0:Int)).length:Nat))),(18,.int .i64 ((i:Int))),(4,.int .i64 ((i:Int))),(6,.int .i64 ((k:Int))),(38,.int .i64 ((zs.length:Nat))),(5,bw),(39,.int .i64 ((j:Int))),(7,.int .i64 ((j:Int)))]) ⟨rfl,rfl,rfl,rfl,rfl,rfl,rfl,rfl,rfl,rfl,trivial⟩ rfl ?_
 refine GC.par (its:=[Z0 42 v2,
     Z0 43 (.int .i64 ((j:Int))),
     Z1 44 [(0,42),(1,43)] (elemPtr v2 1 (j)),
     Z1 45 [(2,44)] (.int .i64 (us.getD (j) 0)),
     Z1 46 [(3,45)] (.bool false),
     Z1 47 [(4,46)] (.bool false),
     Z1 48 [(5,47)] undef,
     Z1 49 [(5,47)] undef,
     Z1 50 [(5,47)] undef,
     Z1 51 [(5,47),(7,49),(8,50)] undef,
     Z1 52 [(5,47),(9,51)] undef,
     Z1 53 [(5,47)] undef,
     Z1 54 [(5,47),(6,48),(10,52),(11,53)] undef,
     Z1 55 [(5,47),(12,54)] undef,
     Z1 56 [(5,47),(13,55)] (.bool false)]) (by kernel_rfl) (by kernel_rfl) (Zc ?_ (Zc ?_ (Zc ?_ (Zc ?_ (Zc ?_ (Zc ?_ (Zc ?_ (Zc ?_ (Zc ?_ (Zc ?_ (Zc ?_ (Zc ?_ (Zc ?_ (Zc ?_ (Zc ?_ POps.nil))))))))))))))) ?_
 exact fun θ R hd=>Zq (OD.move rfl rfl) rfl
 exact fun θ R hd=>Zq (OD.move rfl rfl) rfl
 exact fun θ R ⟨h0d,h1d,_⟩=>Zq (OD.indexAddr rfl et22 rfl (Ent.ints (i:=1) rfl) rfl (by omega)) rfl
 exact fun θ R ⟨h2d,_⟩=>Zq (OD.loadInt rfl ti3 rfl (Ent.ints (i:=1) rfl) (by omega)) rfl
 exact fun θ R ⟨h3d,_⟩=>Opp.plain (OG.imp (OD.eql rfl rfl rfl) (by rintro _ _ ⟨rfl,rfl⟩;exact⟨[],congrArg Value.bool hg10,trivial,rfl⟩)) rfl
 exact fun θ R ⟨h4d,_⟩=>Zq (OD.move rfl rfl) rfl
 exact fun θ R ⟨h5d,_⟩=>Opp.off ⟨[],rfl,trivial,rfl⟩ rfl rfl rfl rfl
 exact fun θ R ⟨h5d,_⟩=>Opp.off ⟨[],rfl,trivial,rfl⟩ rfl rfl rfl rfl
 exact fun θ R ⟨h5d,_⟩=>Opp.off ⟨[],rfl,trivial,rfl⟩ rfl rfl rfl rfl
 exact fun θ R ⟨h5d,h7d,h8d,_⟩=>Opp.off ⟨[],rfl,trivial,rfl⟩ rfl rfl rfl rfl
 exact fun θ R ⟨h5d,h9d,_⟩=>Opp.off ⟨[],rfl,trivial,rfl⟩ rfl rfl rfl rfl
 exact fun θ R ⟨h5d,_⟩=>Opp.off ⟨[],rfl,trivial,rfl⟩ rfl rfl rfl rfl
 exact fun θ R ⟨h5d,h6d,h10d,h11d,_⟩=>Opp.off ⟨[],rfl,trivial,rfl⟩ rfl rfl rfl rfl
 exact fun θ R ⟨h5d,h12d,_⟩=>Opp.off ⟨[],rfl,trivial,rfl⟩ rfl rfl rfl rfl
 exact fun θ R ⟨h5d,h13d,_⟩=>Zq (OD.pickF rfl rfl rfl) rfl
 intro θ hall
 obtain⟨_,_,_,_,_,_,_,_,_,_,_,_,_,_,_,_⟩:=hall
 refine G.at [] 0 (env':=[(1,.pointer (some ⟨g1,0,none⟩)),(3,v2),(17,.int .i64 (((List.replicate (cr:Int).toNat (0:Int)).length:Nat))),(18,.int .i64 ((i:Int))),(4,.int .i64 ((i:Int))),(6,.int .i64 ((k:Int))),(38,.int .i64 ((zs.length:Nat))),(5,bw),(39,.int .i64 ((j:Int))),(7,.int .i64 ((j:Int))),(56,.bool false)]) ⟨rfl,rfl,rfl,rfl,rfl,rfl,rfl,rfl,rfl,rfl,rfl,trivial⟩ (own':=ints 3 bw qs::ints 3 v2 us::box g1 27 [.int .i64 (cr),vcd]::own) rfl ?_
 show G _ _ _ [] _ _ _ _
 refine Zn (Zt (GC.condF rfl (Zk (GE.blockN (Zt (Zr ?_))))))
 refine Zd (OD.addI rfl rfl rfl (by omega)) rfl ?_
 exact Zm rfl (Zn (GE.again (j+1,us,qs,bw) (⟨by omega,hul,liJ_no hu (by omega) (and_no1 hg10),hqs,by omega,hkq,hbw⟩) (by first | omega | (dsimp only;omega)) ⟨rfl,rfl,rfl,rfl,rfl,rfl,rfl,rfl,rfl,trivial⟩ [] 0 rfl))
 replace hc9:=of_decide_eq_false hc9
 refine GC.exit (Zp (Zp (GE.hit (GE.blockN (Zt (Zr ?_))))))
 refine Zm rfl (Zd (OD.addI rfl rfl rfl (by omega)) rfl ?_)
 exact Za rfl (Zn (GE.again (k+1,g2,us,qs,bw) (⟨hul,by have e:=Prod.mk.inj (liJ_end hu (by omega));rw[e.1,e.2];exact hk1,hqs,by omega,by omega,hbw⟩) (by first | omega | (dsimp only;omega)) ⟨rfl,rfl,rfl,rfl,rfl,rfl,rfl,trivial⟩ [] 0 rfl))
 replace hc8:=of_decide_eq_false hc8
 refine GC.exit (Zp (Zp (GE.hit (Zt (Zs (Zr ?_))))))
 refine Zm rfl (Zm rfl (Zd (OD.indexAddr rfl et22 rfl (Ent.ints (i:=1) rfl) rfl (by omega)) rfl ?_))
 refine Zd (OD.loadInt rfl ti3 rfl (Ent.ints (i:=1) rfl) (by omega)) rfl ?_
 refine Za rfl (Zn (Zt (Zs (Zs (Zr (Zm rfl (Zd (OD.len rfl rfl et22 rfl (Ent.ints (i:=0) rfl)) rfl ?_)))))))
 refine Zm rfl (Zn (Zt (GC.block ?_)))
 refine GC.loop (ι:=Nat × Int) (fun⟨t,a⟩=>[(1,.pointer (some ⟨g1,0,none⟩)),(3,v2),(17,.int .i64 (((List.replicate (cr:Int).toNat (0:Int)).length:Nat))),(18,.int .i64 ((i:Int))),(5,bv),(92,bv),(93,.int .i64 ((ps.length:Nat))),(8,.int .i64 (a)),(94,.int .i64 ((t:Int)))]) (fun⟨t,a⟩=>ints 3 bv ps::ints 3 v2 zs::box g1 27 [.int .i64 (cr),vcd]::own) (fun⟨t,a⟩=>(t≤ps.length)∧(a=liM zs ps (zs.getD i 0) t)) (fun⟨t,a⟩=>ps.length - t) (0,(zs.getD i 0)) (⟨by omega,rfl⟩) ⟨rfl,rfl,rfl,rfl,rfl,rfl,rfl,rfl,rfl,trivial⟩ [] 0 rfl ?_
 rintro⟨t,a⟩ ⟨ht,ha⟩
 refine Zs (Zr (Zd (OD.lss rfl rfl rfl) rfl ?_))
 refine Zn (Zt (Zs ?_))
 refine GC.cond rfl (fun hc16=>?_) (fun hc16=>?_)
 replace hc16:=of_decide_eq_true hc16
 have hr4:=getD_rng hps (k:=t) (by omega)
 have hr40:=getD_rng hps (k:=(t:Int).toNat) (by omega)
 refine Zk (Zt (Zs (GC.block (Zs (Zr ?_)))))
 refine Zd (OD.indexAddr rfl et22 rfl (Ent.ints (i:=0) rfl) rfl (by omega)) rfl ?_
 refine Zd (OD.loadInt rfl ti3 rfl (Ent.ints (i:=0) rfl) (by omega)) rfl ?_
 refine Za rfl (Zn (Zt (Zr (Zm rfl (Zm rfl (Zm rfl (Zd (OD.indexAddr rfl et22 rfl (Ent.ints (i:=1) rfl) rfl (by omega)) rfl ?_)))))))
 refine Zd (OD.loadInt rfl ti3 rfl (Ent.ints (i:=1) rfl) (by omega)) rfl ?_
 refine Zd (OD.min rfl rfl rfl rfl) rfl ?_
 refine Za rfl (Zn (GE.blockN (Zt (Zr ?_))))
 refine Zd (OD.addI rfl rfl rfl (by omega)) rfl ?_
 exact Zm rfl (Zn (GE.again (t+1,min (a) (zs.getD ((ps.getD (t) 0:Int).toNat) 0)) (⟨by omega,fold_next ha rfl⟩) (by first | omega | (dsimp only;omega)) ⟨rfl,rfl,rfl,rfl,rfl,rfl,rfl,rfl,rfl,trivial⟩ [] 0 rfl))
 replace hc16:=of_decide_eq_false hc16
 refine GC.exit (Zp (Zp (GE.hit (Zt (Zs (Zr ?_))))))
 refine Zm rfl (Zd (OD.len rfl rfl et22 rfl (Ent.ints (i:=0) rfl)) rfl ?_)
 refine Zm rfl (Zn (Zt (GC.block ?_)))
 refine GC.loop (ι:=Nat × List Int) (fun⟨s,vs⟩=>[(1,.pointer (some ⟨g1,0,none⟩)),(3,v2),(17,.int .i64 (((List.replicate (cr:Int).toNat (0:Int)).length:Nat))),(18,.int .i64 ((i:Int))),(8,.int .i64 (a)),(105,bv),(106,.int .i64 ((ps.length:Nat))),(107,.int .i64 ((s:Int)))]) (fun⟨s,vs⟩=>ints 3 bv ps::ints 3 v2 vs::box g1 27 [.int .i64 (cr),vcd]::own) (fun⟨s,vs⟩=>(s≤ps.length)∧(vs.length=cr.toNat)∧(dvL ps a (ps.length - s) s vs=some z1)) (fun⟨s,vs⟩=>ps.length - s) (0,zs) (⟨by omega,hzl,by have e:=Prod.mk.inj (liK_end hz (by omega));rw[ha,show t=ps.length by omega,e.1,e.2];exact hdv⟩) ⟨rfl,rfl,rfl,rfl,rfl,rfl,rfl,rfl,trivial⟩ [] 0 rfl ?_
 rintro⟨s,vs⟩ ⟨hs,hvl,hv⟩
 refine Zs (Zr (Zd (OD.lss rfl rfl rfl) rfl ?_))
 refine Zn (Zt (Zs ?_))
 refine GC.cond rfl (fun hc17=>?_) (fun hc17=>?_)
 replace hc17:=of_decide_eq_true hc17
 have hst:=dvL_step hv (by omega)
 have hr3:=getD_rng hps (k:=s) (by omega)
 have hr30:=getD_rng hps (k:=(s:Int).toNat) (by omega)
 refine Zk (Zt (Zs (GC.block (Zs (Zr ?_)))))
 refine Zd (OD.indexAddr rfl et22 rfl (Ent.ints (i:=0) rfl) rfl (by omega)) rfl ?_
 refine Zd (OD.loadInt rfl ti3 rfl (Ent.ints (i:=0) rfl) (by omega)) rfl ?_
 refine Za rfl (Zn (Zt (Zr (Zm rfl (Zm rfl (Zd (OD.indexAddr rfl et22 rfl (Ent.ints (i:=1) rfl) rfl (by omega)) rfl ?_))))))
 refine Zd (OD.loadInt rfl ti3 rfl (Ent.ints (i:=1) rfl) (by omega)) rfl ?_
 refine Zm rfl (Zd (OD.quo rfl rfl rfl (hst.1)) rfl ?_)
 refine Zd (OD.indexAddr rfl et22 rfl (Ent.ints (i:=1) rfl) rfl (by omega)) rfl ?_
 refine G.stepD0 (OD.storeInt rfl ti3 rfl rfl (i:=1) rfl (by omega)) rfl rfl ?_
 refine Zn (GE.blockN (Zt (Zr ?_)))
 refine Zd (OD.addI rfl rfl rfl (by first | omega | (simp only[List.length_set,List.length_replicate];omega))) rfl ?_
 exact Zm rfl (Zn (GE.again (s+1,(vs).set ((ps.getD (s) 0:Int).toNat) (IntKind.i64.wrap ((vs.getD ((ps.getD (s) 0:Int).toNat) 0).tdiv a))) (⟨by omega,by rw[List.length_set];exact hvl,hst.2⟩) (by first | omega | (dsimp only;omega)) ⟨rfl,rfl,rfl,rfl,rfl,rfl,rfl,rfl,trivial⟩ [] 0 rfl))
 replace hc17:=of_decide_eq_false hc17
 refine GC.exit (Zp (Zp (GE.hit (GE.blockN (Zt (Zr ?_))))))
 refine Zd (OD.addI rfl rfl rfl (by omega)) rfl ?_
 exact Zm rfl (Zn (GE.again (i+1,vs) (⟨by omega,hvl,by rw[dvL_end hv (by omega)];exact hrest⟩) (by first | omega | (dsimp only;omega)) ⟨rfl,rfl,rfl,rfl,trivial⟩ [1,1] 1 rfl))
 replace hc4:=of_decide_eq_false hc4
 refine GC.exit (Zp (Zp (GE.hit (Zt (Zs (Zr ?_))))))
 refine Zm rfl (Za rfl (Zn (Zt (GC.ret ?_))))
 exact GE.body [0] 1 (res1 rfl rfl) rfl (⟨v2,rfl,hs3,congrArg (fun(l0:List Int)=>ints 3 v2 l0::own) ((liO_end hy (by omega):ys=lenF cr cd))⟩)
theorem inner_w {W:World}{own:List Asn}{cr:Int}{vcd:Value}{cd:List Int}{vx:Value}{x:List Int}{vy:Value}{y:List Int}(scd:IsS vcd)(ecd:Ent own fun w=>Ints w vcd cd)(sx:IsS vx)(ex:Ent own fun w=>Ints w vx x)(sy:IsS vy)(ey:Ent own fun w=>Ints w vy y)(hty:(tyS cr cd).isSome=true)(hx:(x.length:Int)=cr)(hy:(y.length:Int)=cr):Spec Tryz.prog 57 [.agg #[.int .i64 (cr),vcd],vx,vy] W own (fun v ow=>v = .int .i64 (inF cr cd x y)∧ow=own):=by
 have hcr:=(tyS_ok hty).1
 have hcd:=(tyS_ok hty).2
 have hll:=(len_ok hty).2.2
 have hwl:=wtF_len cr cd y
 refine Spec.enter Tryz.f57 _ Tryz.func57 rfl (n:=39) rfl rfl ?_
 refine Zs (Zr (G.step (OG.box (cs:=[.int .i64 (cr),vcd]) rfl rfl rfl) rfl rfl rfl ?_))
 rintro _ _ ⟨g1,rfl,rfl⟩
 refine Za rfl (Zn (Zt (Zs (Zr (Za rfl (Zn (Zt (Zs (Zr (Zd (OD.loadAgg rfl ti27 rfl (i:=0) rfl (us:=[.int .i64 (cr),vcd]) rfl rfl) rfl ?_))))))))))
 refine G.step (OG.call [.agg #[.int .i64 (cr),vcd]] ent120 rfl rfl rfl rfl (by exact(lengths_w scd (Ent.drop 1 ecd) (hty)))) rfl rfl rfl ?_
 rintro v2 _ ⟨_,rfl,hs3,rfl⟩
 refine Za rfl (Zn (Zt (Zs (Zr (Zd (OD.loadAgg rfl ti27 rfl (i:=1) rfl (us:=[.int .i64 (cr),vcd]) rfl rfl) rfl ?_)))))
 refine Zm rfl (G.step (OG.call [.agg #[.int .i64 (cr),vcd],vy] ent66 rfl rfl rfl rfl (by exact(weightOf_w scd (Ent.drop 2 ecd) sy (Ent.drop 2 ey) (hcr) (hcd) (hy)))) rfl rfl rfl ?_)
 rintro v4 _ ⟨_,rfl,hs5,rfl⟩
 refine Za rfl (Zn (Zt (Zs (Zs (Zr (Zm rfl (Zd (OD.len rfl rfl et22 rfl (Ent.drop 3 ex)) rfl ?_)))))))
 refine Zm rfl (Zn (Zt (GC.block ?_)))
 refine GC.loop (ι:=Nat × Int) (fun⟨i,s⟩=>[(1,vx),(8,v2),(9,v4),(17,.int .i64 ((x.length:Nat))),(7,.int .i64 (s)),(18,.int .i64 ((i:Int)))]) (fun⟨i,s⟩=>ints 3 v4 (wtF cr cd y)::ints 3 v2 (lenF cr cd)::box g1 27 [.int .i64 (cr),vcd]::own) (fun⟨i,s⟩=>(i≤x.length)∧(s=(List.range i).foldl (fun(s:Int) (i:Nat)=>IntKind.i64.wrap (s+IntKind.i64.wrap (IntKind.i64.wrap (x.getD i 0*(lenF cr cd).getD i 0)*(wtF cr cd y).getD i 0))) 0)) (fun⟨i,s⟩=>x.length - i) (0,0) (⟨by omega,rfl⟩) ⟨rfl,rfl,rfl,rfl,rfl,rfl,trivial⟩ [] 0 rfl ?_
 rintro⟨i,s⟩ ⟨hi,hs⟩
 refine Zs (Zr (Zd (OD.lss rfl rfl rfl) rfl ?_))
 refine Zn (Zt (Zs ?_))
 refine GC.cond rfl (fun hc6=>?_) (fun hc6=>?_)
 replace hc6:=of_decide_eq_true hc6
 refine Zk (Zt (Zs (GC.block (Zs (Zr ?_)))))
 refine Zm rfl (Za rfl (Zn (Zt (GC.at [] 0 (env':=[(1,vx),(8,v2),(9,v4),(17,.int .i64 ((x.length:Nat))),(7,.int .i64 (s)),(18,.int .i64 ((i:Int))),(10,.int .i64 ((i:Int)))]) ⟨rfl,rfl,rfl,rfl,rfl,rfl,rfl,trivial⟩ rfl ?_))))
 refine GC.par (its:=[Z0 21 (.int .i64 (s)),
     Z0 22 vx,
     Z0 23 (.int .i64 ((i:Int))),
     Z1 24 [(1,22),(2,23)] (elemPtr vx 1 (i)),
     Z1 25 [(3,24)] (.int .i64 (x.getD (i) 0)),
     Z0 26 v2,
     Z0 27 (.int .i64 ((i:Int))),
     Z1 28 [(5,26),(6,27)] (elemPtr v2 1 (i)),
     Z1 29 [(7,28)] (.int .i64 ((lenF cr cd).getD (i) 0)),
     Z1 30 [(4,25),(8,29)] (.int .i64 (IntKind.i64.wrap ((x.getD (i) 0)*((lenF cr cd).getD (i) 0)))),
     Z0 31 v4,
     Z0 32 (.int .i64 ((i:Int))),
     Z1 33 [(10,31),(11,32)] (elemPtr v4 1 (i)),
     Z1 34 [(12,33)] (.int .i64 ((wtF cr cd y).getD (i) 0)),
     Z1 35 [(9,30),(13,34)] (.int .i64 (IntKind.i64.wrap ((IntKind.i64.wrap ((x.getD (i) 0)*((lenF cr cd).getD (i) 0)))*((wtF cr cd y).getD (i) 0)))),
     Z1 36 [(0,21),(14,35)] (.int .i64 (IntKind.i64.wrap (s+(IntKind.i64.wrap ((IntKind.i64.wrap ((x.getD (i) 0)*((lenF cr cd).getD (i) 0)))*((wtF cr cd y).getD (i) 0))))))]) (by kernel_rfl) (by kernel_rfl) (Zc ?_ (Zc ?_ (Zc ?_ (Zc ?_ (Zc ?_ (Zc ?_ (Zc ?_ (Zc ?_ (Zc ?_ (Zc ?_ (Zc ?_ (Zc ?_ (Zc ?_ (Zc ?_ (Zc ?_ (Zc ?_ POps.nil)))))))))))))))) ?_
 exact fun θ R hd=>Zq (OD.move rfl rfl) rfl
 exact fun θ R hd=>Zq (OD.move rfl rfl) rfl
 exact fun θ R hd=>Zq (OD.move rfl rfl) rfl
 exact fun θ R ⟨h1d,h2d,_⟩=>Zq (OD.indexAddr rfl et22 rfl (Ent.drop 3 ex.app) rfl (by omega)) rfl
 exact fun θ R ⟨h3d,_⟩=>Zq (OD.loadInt rfl ti3 rfl (Ent.drop 3 ex.app) (by omega)) rfl
 exact fun θ R hd=>Zq (OD.move rfl rfl) rfl
 exact fun θ R hd=>Zq (OD.move rfl rfl) rfl
 exact fun θ R ⟨h5d,h6d,_⟩=>Zq (OD.indexAddr rfl et22 rfl (Ent.ints (i:=1) rfl) rfl (by omega)) rfl
 exact fun θ R ⟨h7d,_⟩=>Zq (OD.loadInt rfl ti3 rfl (Ent.ints (i:=1) rfl) (by omega)) rfl
 exact fun θ R ⟨h4d,h8d,_⟩=>Zq (OD.mul rfl rfl rfl) rfl
 exact fun θ R hd=>Zq (OD.move rfl rfl) rfl
 exact fun θ R hd=>Zq (OD.move rfl rfl) rfl
 exact fun θ R ⟨h10d,h11d,_⟩=>Zq (OD.indexAddr rfl et22 rfl (Ent.ints (i:=0) rfl) rfl (by omega)) rfl
 exact fun θ R ⟨h12d,_⟩=>Zq (OD.loadInt rfl ti3 rfl (Ent.ints (i:=0) rfl) (by omega)) rfl
 exact fun θ R ⟨h9d,h13d,_⟩=>Zq (OD.mul rfl rfl rfl) rfl
 exact fun θ R ⟨h0d,h14d,_⟩=>Zq (OD.add rfl rfl rfl) rfl
 intro θ hall
 obtain⟨_,_,_,_,_,_,_,_,_,_,_,_,_,_,_,_,_⟩:=hall
 refine G.at [] 0 (env':=[(1,vx),(8,v2),(9,v4),(17,.int .i64 ((x.length:Nat))),(7,.int .i64 (s)),(18,.int .i64 ((i:Int))),(36,.int .i64 (IntKind.i64.wrap (s+(IntKind.i64.wrap ((IntKind.i64.wrap ((x.getD (i) 0)*((lenF cr cd).getD (i) 0)))*((wtF cr cd y).getD (i) 0))))))]) ⟨rfl,rfl,rfl,rfl,rfl,rfl,rfl,trivial⟩ (own':=ints 3 v4 (wtF cr cd y)::ints 3 v2 (lenF cr cd)::box g1 27 [.int .i64 (cr),vcd]::own) rfl ?_
 show G _ _ _ [_] _ _ _ _
 refine Za rfl (Zn (GE.blockN (Zt (Zr ?_))))
 refine Zd (OD.addI rfl rfl rfl (by omega)) rfl ?_
 exact Zm rfl (Zn (GE.again (i+1,IntKind.i64.wrap (s+(IntKind.i64.wrap ((IntKind.i64.wrap ((x.getD (i) 0)*((lenF cr cd).getD (i) 0)))*((wtF cr cd y).getD (i) 0))))) (⟨by omega,fold_next hs rfl⟩) (by first | omega | (dsimp only;omega)) ⟨rfl,rfl,rfl,rfl,rfl,rfl,trivial⟩ [] 0 rfl))
 replace hc6:=of_decide_eq_false hc6
 refine GC.exit (Zp (Zp (GE.hit (Zt (Zs (Zr ?_))))))
 refine Zm rfl (Za rfl (Zn (Zt (GC.ret ?_))))
 exact GE.body [] 3 (res1 rfl rfl) rfl (⟨congrArg (fun(a0:Int)=>(.int .i64 (a0):Value)) ((by rw[hs,show i=x.length by omega];rfl:(s:Int)=inF cr cd x y)),rfl⟩)
end Go.Proofs.YtbmnnbglipkidaaGreatDoor
