/-
  The roots of a Cartan matrix by the first text: contracts by walks.
-/
import Derived.Test.YtbmnnbglipkidaaGreatDoorFct
import Derived.Test.YtbmnnbglipkidaaGreatDoorWRts
import Derived.Test.YtbmnnbglipkidaaGreatDoorSrtA
import Derived.Test.YtbmnnbglipkidaaGreatDoorNewA
namespace Go.Proofs.YtbmnnbglipkidaaGreatDoor
set_option maxRecDepth 100000
set_option linter.unusedVariables false
set_option linter.unusedSimpArgs false
open Go.RowKit
set_option maxHeartbeats 4000000 in
theorem newRoots_w {W:World}{own:List Asn}{cr:Int}{vcd:Value}{cd:List Int}(scd:IsS vcd)(ecd:Ent own fun w=>Ints w vcd cd)(hcr:1≤cr∧cr≤4)(hcd:(cd.length:Int)=cr*cr)(hty:(tyS cr cd).isSome=true)(htab:Ent own Pow10):Spec Tryz.prog 51 [.agg #[.int .i64 (cr),vcd]] W own (fun v ow=>∃ (r2:Value) (u2:List Value) (g3:Nat),v = .agg #[.int .i64 (cr),vcd,r2,.map (some g3)]∧IsS r2∧AllS u2∧u2.length=(rSt cr cd).length∧ow=lst 22 r2 u2::many (ints 3) u2 (rSt cr cd)::mapA keyL valI g3 (rKvs cr cd)::own):=by
 refine Spec.enter Tryz.f51 _ Tryz.func51 rfl (n:=123) rfl rfl ?_
 refine Zs (Zr (G.step (OG.box (cs:=[.int .i64 (cr),vcd]) rfl rfl rfl) rfl rfl rfl ?_))
 rintro _ _ ⟨g1,rfl,rfl⟩
 refine G.step (OG.alloc rfl ti64 (zs:=[.int .i64 (0),.slice none 0 0,.slice none 0 0,.map none]) rfl) rfl rfl rfl ?_
 rintro _ _ ⟨g2,rfl,rfl⟩
 refine Zn (Zt (Zs (Zr (Zd (OD.loadAgg rfl ti27 rfl (i:=1) rfl (us:=[.int .i64 (cr),vcd]) rfl rfl) rfl ?_))))
 refine G.step (OG.makeMap keyL valI rfl rfl) rfl rfl rfl ?_
 rintro _ _ ⟨g3,rfl,rfl⟩
 refine Zd (OD.build (idx:=[0,2]) (xs:=[.tmp 13,.tmp 14]) (vs:=[.agg #[.int .i64 (cr),vcd],.map (some g3)]) (cs:=[[.int .i64 (cr),vcd],[.map (some g3)]]) (zs:=[.int .i64 (0),.slice none 0 0,.slice none 0 0,.map none]) (r:=[.int .i64 (cr),vcd,.slice none 0 0,.map (some g3)]) rfl ti64 rfl rfl rfl ⟨rfl,⟨rfl,trivial⟩⟩ rfl) rfl ?_
 refine G.step (OG.alloc rfl ti64 (zs:=[.int .i64 (0),.slice none 0 0,.slice none 0 0,.map none]) rfl) rfl rfl rfl ?_
 rintro _ _ ⟨g4,rfl,rfl⟩
 refine G.stepD0 (OD.store rfl ti64 rfl rfl (us:=[.int .i64 (cr),vcd,.slice none 0 0,.map (some g3)]) rfl rfl (allC rfl (allC (IsS.one scd) (allC rfl (allC rfl rfl)))) (i:=0) rfl rfl) rfl rfl ?_
 refine Zn (Zt (Zs (Zs (Zr (Zd (OD.fieldAddr rfl rfl fa27_0) rfl ?_)))))
 refine Zd (OD.load rfl ti3 rfl (i:=3) rfl rfl) rfl ?_
 refine Zm rfl (Zn (Zt (GC.block ?_)))
 refine GC.nilLst 22 ?_
 refine GC.many0 (ints 3) ?_
 refine GC.loop (ι:=Nat × List Value × Value) (fun⟨i,us,v⟩=>[(1,.pointer (some ⟨g1,0,none⟩)),(2,.pointer (some ⟨g2,0,none⟩)),(3,.pointer (some ⟨g4,0,none⟩)),(17,.int .i64 (cr)),(18,.int .i64 ((i:Int)))]) (fun⟨i,us,v⟩=>many (ints 3) us ((List.range i).map (unitL cr.toNat))::lst 22 v us::box g4 64 [.int .i64 (cr),vcd,v,.map (some g3)]::mapA keyL valI g3 (kzL 0 ((List.range i).map (unitL cr.toNat)))::box g2 64 [.int .i64 (0),.slice none 0 0,.slice none 0 0,.map none]::box g1 27 [.int .i64 (cr),vcd]::own) (fun⟨i,us,v⟩=>(i≤cr.toNat)∧(AllS us)∧(us.length=i)∧(IsS v)) (fun⟨i,us,v⟩=>cr.toNat - i) (0,[],(.slice none 0 0)) (⟨by omega,AllS.nil,rfl,IsS.nil⟩) ⟨rfl,rfl,rfl,rfl,rfl,trivial⟩ [] 0 rfl ?_
 rintro⟨i,us,v⟩ ⟨hi,ha,hul,hv⟩
 have hxl:((List.range i).map (unitL cr.toNat)).length=i:=by simp
 refine Zs (Zr (Zd (OD.lss rfl rfl rfl) rfl ?_))
 refine Zn (Zt (Zs ?_))
 refine GC.cond rfl (fun hc5=>?_) (fun hc5=>?_)
 replace hc5:=of_decide_eq_true hc5
 refine Zk (Zt (Zs (GC.block (Zs (Zr ?_)))))
 refine Zm rfl (Za rfl (Zn (Zt (Zs (GC.at [] 0 (env':=[(1,.pointer (some ⟨g1,0,none⟩)),(2,.pointer (some ⟨g2,0,none⟩)),(3,.pointer (some ⟨g4,0,none⟩)),(17,.int .i64 (cr)),(18,.int .i64 ((i:Int))),(4,.int .i64 ((i:Int)))]) ⟨rfl,rfl,rfl,rfl,rfl,rfl,trivial⟩ rfl ?_)))))
 refine GC.par (its:=[Z0 21 (.pointer (some ⟨g4,2,none⟩)),
     Z1 22 [(0,21)] v,
     Z0 23 (.pointer (some ⟨g1,0,none⟩)),
     Z1 24 [(2,23)] (.int .i64 (cr)),
     Z0 25 (.int .i64 ((i:Int))),
     ⟨26,[(3,24),(4,25)],[],[],[5],fun ds=>((ds.getD 0 []).getD 0 undef),fun ds=>IsS ((ds.getD 0 []).getD 0 undef),fun ds=>[ints 3 ((ds.getD 0 []).getD 0 undef) (unitL cr.toNat i)]⟩,
     ⟨27,[(5,26)],[5],[],[5,6],fun ds=>((ds.getD 1 []).getD 0 undef),fun ds=>IsS ((ds.getD 1 []).getD 0 undef),fun ds=>[lst 22 ((ds.getD 1 []).getD 0 undef) [((ds.getD 0 []).getD 0 undef)]]⟩]) (by kernel_rfl) (by kernel_rfl) (Zc ?_ (Zc ?_ (Zc ?_ (Zc ?_ (Zc ?_ (Zc ?_ (Zc ?_ POps.nil))))))) ?_
 exact fun θ R hd=>Zq (OD.fieldAddr rfl rfl fa64_1) rfl
 exact fun θ R ⟨h0d,_⟩=>Zq (OD.load rfl ti60 rfl (i:=2) rfl rfl) rfl
 exact fun θ R hd=>Zq (OD.fieldAddr rfl rfl fa27_0) rfl
 exact fun θ R ⟨h2d,_⟩=>Zq (OD.load rfl ti3 rfl (i:=5) rfl rfl) rfl
 exact fun θ R hd=>Zq (OD.move rfl rfl) rfl
 exact fun θ R ⟨h3d,h4d,_⟩=>Opp.plain (OG.imp (OG.call [.int .i64 (cr),.int .i64 ((i:Int))] ent75 rfl rfl rfl rfl (by exact(unit_w (by omega) (by omega)))) (by rintro v10 _ ⟨_,rfl,hs11,rfl⟩;exact⟨[v10],rfl,hs11,rfl⟩)) rfl
 exact fun θ R ⟨h5d,_⟩=>Opp.plain (OG.imp (OG.buildLst (xs:=[.tmp 26]) (us:=[((θ 5).getD 0 undef)]) rfl et60 rfl rfl rfl (allC (IsS.one h5d) rfl) rfl) (by rintro v12 _ ⟨hs13,rfl⟩;exact⟨[v12],rfl,hs13,rfl⟩)) rfl
 intro θ hall
 obtain⟨_,_,_,_,_,h5a,h6a,_⟩:=hall
 refine G.at [] 0 (env':=[(1,.pointer (some ⟨g1,0,none⟩)),(2,.pointer (some ⟨g2,0,none⟩)),(3,.pointer (some ⟨g4,0,none⟩)),(17,.int .i64 (cr)),(18,.int .i64 ((i:Int))),(4,.int .i64 ((i:Int))),(22,v),(27,((θ 6).getD 0 undef))]) ⟨rfl,rfl,rfl,rfl,rfl,rfl,rfl,rfl,trivial⟩ (own':=ints 3 ((θ 5).getD 0 undef) (unitL cr.toNat i)::lst 22 ((θ 6).getD 0 undef) [((θ 5).getD 0 undef)]::many (ints 3) us ((List.range i).map (unitL cr.toNat))::lst 22 v us::box g4 64 [.int .i64 (cr),vcd,v,.map (some g3)]::mapA keyL valI g3 (kzL 0 ((List.range i).map (unitL cr.toNat)))::box g2 64 [.int .i64 (0),.slice none 0 0,.slice none 0 0,.map none]::box g1 27 [.int .i64 (cr),vcd]::own) rfl ?_
 have hs14:IsS ((θ 5).getD 0 undef):=h5a
 clear h5a
 generalize ((θ 5).getD 0 undef)=v15 at *
 have hs16:IsS ((θ 6).getD 0 undef):=h6a
 clear h6a
 generalize ((θ 6).getD 0 undef)=v17 at *
 show G _ _ _ [_,_,_] _ _ _ _
 refine G.step (OG.appendLst 3 rfl rfl et60 rfl rfl rfl (Ent.lst (i:=1) rfl) (List.all_eq_true.2 fun u hu=>by simpa using(AllS.snoc AllS.nil hs14).one u hu) (by simp[maxLen] <;> omega)) rfl rfl rfl ?_
 rintro v18 _ ⟨hs19,rfl⟩
 refine Zd (OD.fieldAddr rfl rfl fa64_1) rfl ?_
 refine G.stepD0 (OD.store rfl ti60 rfl rfl (us:=[v18]) (one_cells (IsS.one hs19)) rfl (allC (IsS.one hs19) rfl) (i:=4) rfl rfl) rfl rfl ?_
 refine Zn (Zt ?_)
 refine GC.at [0,1,0,0,0,0,0,0] 0 (env':=[(1,.pointer (some ⟨g1,0,none⟩)),(2,.pointer (some ⟨g2,0,none⟩)),(3,.pointer (some ⟨g4,0,none⟩)),(17,.int .i64 (cr)),(18,.int .i64 ((i:Int))),(4,.int .i64 ((i:Int))),(22,v),(27,v17),(28,v18),(29,.pointer (some ⟨g4,2,none⟩))]) ⟨rfl,rfl,rfl,rfl,rfl,rfl,rfl,rfl,rfl,rfl,trivial⟩ (own':=ints 3 v15 (unitL cr.toNat i)::many (ints 3) us ((List.range i).map (unitL cr.toNat))::lst 22 v17 [v15]::lst 22 v18 (us++[v15])::box g4 64 [.int .i64 (cr),vcd,v18,.map (some g3)]::mapA keyL valI g3 (kzL 0 ((List.range i).map (unitL cr.toNat)))::box g2 64 [.int .i64 (0),.slice none 0 0,.slice none 0 0,.map none]::box g1 27 [.int .i64 (cr),vcd]::own) rfl ?_
 refine GC.manyPush (by omega) ?_
 refine GC.ownEq (own':=many (ints 3) (us++[v15]) ((List.range (i+1)).map (unitL cr.toNat))::lst 22 v17 [v15]::lst 22 v18 (us++[v15])::box g4 64 [.int .i64 (cr),vcd,v18,.map (some g3)]::mapA keyL valI g3 (kzL 0 ((List.range i).map (unitL cr.toNat)))::box g2 64 [.int .i64 (0),.slice none 0 0,.slice none 0 0,.map none]::box g1 27 [.int .i64 (cr),vcd]::own) (by rw[units_next]) ?_
 have hpl:(us++[v15]).length=i+1:=by rw[List.length_append,List.length_singleton,hul]
 have hpx:((List.range (i+1)).map (unitL cr.toNat)).length=i+1:=by simp
 refine GC.at [] 0 (env':=[(1,.pointer (some ⟨g1,0,none⟩)),(2,.pointer (some ⟨g2,0,none⟩)),(3,.pointer (some ⟨g4,0,none⟩)),(17,.int .i64 (cr)),(18,.int .i64 ((i:Int))),(4,.int .i64 ((i:Int)))]) ⟨rfl,rfl,rfl,rfl,rfl,rfl,trivial⟩ rfl ?_
 refine GC.par (its:=[Z0 30 (.pointer (some ⟨g4,3,none⟩)),
     Z1 31 [(0,30)] (.map (some g3)),
     Z0 32 (.pointer (some ⟨g4,2,none⟩)),
     Z1 33 [(2,32)] v18,
     Z0 34 (.int .i64 ((i:Int))),
     Z1 35 [(3,33),(4,34)] (elemPtr v18 1 (i)),
     Z1 36 [(5,35)] (((us++[v15]).getD (i) undef)),
     Z1 37 [(6,36)] (.string (fmtB (((List.range (i+1)).map (unitL cr.toNat)).getD (i) []))),
     Z0 38 (.int .i64 ((i:Int)))]) (by kernel_rfl) (by kernel_rfl) (Zc ?_ (Zc ?_ (Zc ?_ (Zc ?_ (Zc ?_ (Zc ?_ (Zc ?_ (Zc ?_ (Zc ?_ POps.nil))))))))) ?_
 exact fun θ R hd=>Zq (OD.fieldAddr rfl rfl fa64_2) rfl
 exact fun θ R ⟨h0d,_⟩=>Zq (OD.load rfl ti62 rfl (i:=3) rfl rfl) rfl
 exact fun θ R hd=>Zq (OD.fieldAddr rfl rfl fa64_1) rfl
 exact fun θ R ⟨h2d,_⟩=>Zq (OD.load rfl ti60 rfl (i:=3) rfl rfl) rfl
 exact fun θ R hd=>Zq (OD.move rfl rfl) rfl
 exact fun θ R ⟨h3d,h4d,_⟩=>Zq (OD.indexAddr rfl et60 rfl (Ent.lst (i:=2) rfl) rfl (by omega)) rfl
 exact fun θ R ⟨h5d,_⟩=>Zq (OD.loadElem rfl ti22 rfl (Ent.lst (i:=2) rfl) (by omega) rfl) rfl
 exact fun θ R ⟨h6d,_⟩=>Zq (OG.call [((us++[v15]).getD (i) undef)] ent98 rfl rfl rfl rfl (by exact(formatInts_w ((ha.snoc hs14).get (by omega)) (Ent.manyInts (i:=0) rfl ⟨by first | omega | (simp;omega),by first | omega | (simp;omega)⟩) (by rw[units_get];exact all64_unit _ _) (by first | omega | (rw[units_get,unitL_len];omega)) ((Ent.drop 7 htab.app))))) rfl
 exact fun θ R hd=>Zq (OD.move rfl rfl) rfl
 intro θ hall
 obtain⟨_,_,_,_,_,_,_,_,_,_⟩:=hall
 refine G.at [] 0 (env':=[(1,.pointer (some ⟨g1,0,none⟩)),(2,.pointer (some ⟨g2,0,none⟩)),(3,.pointer (some ⟨g4,0,none⟩)),(17,.int .i64 (cr)),(18,.int .i64 ((i:Int))),(31,.map (some g3)),(37,.string (fmtB (((List.range (i+1)).map (unitL cr.toNat)).getD (i) []))),(38,.int .i64 ((i:Int)))]) ⟨rfl,rfl,rfl,rfl,rfl,rfl,rfl,rfl,trivial⟩ (own':=many (ints 3) (us++[v15]) ((List.range (i+1)).map (unitL cr.toNat))::lst 22 v17 [v15]::lst 22 v18 (us++[v15])::box g4 64 [.int .i64 (cr),vcd,v18,.map (some g3)]::mapA keyL valI g3 (kzL 0 ((List.range i).map (unitL cr.toNat)))::box g2 64 [.int .i64 (0),.slice none 0 0,.slice none 0 0,.map none]::box g1 27 [.int .i64 (cr),vcd]::own) rfl ?_
 show G _ _ _ [_] _ _ _ _
 refine G.stepD0 (OD.mapUpdate (kE:=keyL) (vE:=valI) (l:=kzL 0 ((List.range i).map (unitL cr.toNat))) (k:=(((List.range (i+1)).map (unitL cr.toNat)).getD (i) [])) (b:=((i:Int):Int)) rfl mt62.ht ke9keyL rfl rfl rfl (i:=4) rfl) rfl rfl ?_
 refine Zn (GE.blockN (Zt (Zr ?_)))
 refine Zd (OD.addI rfl rfl rfl (by omega)) rfl ?_
 refine Zm rfl (Zn (GE.ownEq (own':=many (ints 3) (us++[v15]) ((List.range (i+1)).map (unitL cr.toNat))::lst 22 v17 [v15]::lst 22 v18 (us++[v15])::box g4 64 [.int .i64 (cr),vcd,v18,.map (some g3)]::mapA keyL valI g3 (kzL 0 ((List.range (i+1)).map (unitL cr.toNat)))::box g2 64 [.int .i64 (0),.slice none 0 0,.slice none 0 0,.map none]::box g1 27 [.int .i64 (cr),vcd]::own) (by rw[units_get,aup_unit (by omega)] <;> rfl) ?_))
 exact GE.again (i+1,us++[v15],v18) (⟨by omega,(ha.snoc hs14),by rw[List.length_append,List.length_singleton];omega,hs19⟩) (by first | omega | (dsimp only;omega)) ⟨rfl,rfl,rfl,rfl,rfl,trivial⟩ [0,1,1,1,1,1] 1 rfl
 replace hc5:=of_decide_eq_false hc5
 refine GC.exit (Zp (Zp (GE.hit (Zt (Zs (Zs (Zr ?_)))))))
 refine Za rfl (Zn (Zt (GC.block ?_)))
 refine GC.loop (ι:=Nat × Nat × List (List Int) × List Value × Value) (fun⟨f,k,fs,us,v⟩=>[(1,.pointer (some ⟨g1,0,none⟩)),(2,.pointer (some ⟨g2,0,none⟩)),(3,.pointer (some ⟨g4,0,none⟩)),(5,.int .i64 ((k:Int)))]) (fun⟨f,k,fs,us,v⟩=>many (ints 3) us fs::lst 22 v us::box g4 64 [.int .i64 (cr),vcd,v,.map (some g3)]::mapA keyL valI g3 (kzL 0 fs)::box g2 64 [.int .i64 (0),.slice none 0 0,.slice none 0 0,.map none]::box g1 27 [.int .i64 (cr),vcd]::own) (fun⟨f,k,fs,us,v⟩=>(rC cr cd f fs k=some (rFd cr cd))∧(AllS us)∧(us.length=fs.length)∧(IsS v)) (fun⟨f,k,fs,us,v⟩=>f) (40,0,((List.range i).map (unitL cr.toNat)),us,v) (⟨(rtOk hty).first (by omega) hi,ha,by rw[hul];simp,hv⟩) ⟨rfl,rfl,rfl,rfl,trivial⟩ [] 0 rfl ?_
 rintro⟨f,k,fs,us,v⟩ ⟨hf,ha,hul,hv⟩
 have hfl:fs.length≤30:=Nat.le_trans (rC_pre hf).len (rtOk hty).few
 refine Zs (Zs (Zr (Zm rfl (Zd (OD.fieldAddr rfl rfl fa64_1) rfl ?_))))
 refine Zd (OD.load rfl ti60 rfl (i:=2) rfl rfl) rfl ?_
 refine Zd (OD.len rfl rfl et60 rfl (Ent.lst (i:=1) rfl)) rfl ?_
 refine Zd (OD.lss rfl rfl rfl) rfl ?_
 refine Zn (Zt ?_)
 refine GC.cond rfl (fun hc20=>?_) (fun hc20=>?_)
 replace hc20:=of_decide_eq_true hc20
 obtain⟨g,hgg,hst,hpre⟩:=rC_step hf (by omega)
 obtain⟨hxl0,hxb0⟩:=(rtOk hty).fget (rC_pre hf) (show k<fs.length by omega)
 have hwl:=wtF_len cr cd (fs.getD k [])
 refine Zk (Zt (Zs (GC.block (Zs ?_))))
 refine GC.at [] 0 (env':=[(1,.pointer (some ⟨g1,0,none⟩)),(2,.pointer (some ⟨g2,0,none⟩)),(3,.pointer (some ⟨g4,0,none⟩)),(5,.int .i64 ((k:Int)))]) ⟨rfl,rfl,rfl,rfl,trivial⟩ rfl ?_
 refine GC.par (its:=[Z0 47 (.agg #[.int .i64 (cr),vcd]),
     Z0 48 (.pointer (some ⟨g4,2,none⟩)),
     Z1 49 [(1,48)] v,
     Z0 50 (.int .i64 ((k:Int))),
     Z1 51 [(2,49),(3,50)] (elemPtr v 1 (k)),
     Z1 52 [(4,51)] ((us.getD (k) undef)),
     ⟨53,[(0,47),(5,52)],[],[],[6],fun ds=>((ds.getD 0 []).getD 0 undef),fun ds=>IsS ((ds.getD 0 []).getD 0 undef),fun ds=>[ints 3 ((ds.getD 0 []).getD 0 undef) (wtF cr cd (fs.getD (k) []))]⟩]) (by kernel_rfl) (by kernel_rfl) (Zc ?_ (Zc ?_ (Zc ?_ (Zc ?_ (Zc ?_ (Zc ?_ (Zc ?_ POps.nil))))))) ?_
 exact fun θ R hd=>Zq (OD.loadAgg rfl ti27 rfl (i:=5) rfl (us:=[.int .i64 (cr),vcd]) rfl rfl) rfl
 exact fun θ R hd=>Zq (OD.fieldAddr rfl rfl fa64_1) rfl
 exact fun θ R ⟨h1d,_⟩=>Zq (OD.load rfl ti60 rfl (i:=2) rfl rfl) rfl
 exact fun θ R hd=>Zq (OD.move rfl rfl) rfl
 exact fun θ R ⟨h2d,h3d,_⟩=>Zq (OD.indexAddr rfl et60 rfl (Ent.lst (i:=1) rfl) rfl (by omega)) rfl
 exact fun θ R ⟨h4d,_⟩=>Zq (OD.loadElem rfl ti22 rfl (Ent.lst (i:=1) rfl) (by omega) rfl) rfl
 exact fun θ R ⟨h0d,h5d,_⟩=>Opp.plain (OG.imp (OG.call [.agg #[.int .i64 (cr),vcd],(us.getD (k) undef)] ent66 rfl rfl rfl rfl (by exact(weightOf_w scd (Ent.drop 6 ecd.app) (ha.get (by omega)) (Ent.manyInts (i:=0) rfl ⟨by first | omega | (simp;omega),by first | omega | (simp;omega)⟩) (hcr) (hcd) (by omega)))) (by rintro v21 _ ⟨_,rfl,hs22,rfl⟩;exact⟨[v21],rfl,hs22,rfl⟩)) rfl
 intro θ hall
 obtain⟨_,_,_,_,_,_,h6a,_⟩:=hall
 refine G.at [] 0 (env':=[(1,.pointer (some ⟨g1,0,none⟩)),(2,.pointer (some ⟨g2,0,none⟩)),(3,.pointer (some ⟨g4,0,none⟩)),(5,.int .i64 ((k:Int))),(53,((θ 6).getD 0 undef))]) ⟨rfl,rfl,rfl,rfl,rfl,trivial⟩ (own':=ints 3 ((θ 6).getD 0 undef) (wtF cr cd (fs.getD (k) []))::many (ints 3) us fs::lst 22 v us::box g4 64 [.int .i64 (cr),vcd,v,.map (some g3)]::mapA keyL valI g3 (kzL 0 fs)::box g2 64 [.int .i64 (0),.slice none 0 0,.slice none 0 0,.map none]::box g1 27 [.int .i64 (cr),vcd]::own) rfl ?_
 have hs23:IsS ((θ 6).getD 0 undef):=h6a
 clear h6a
 generalize ((θ 6).getD 0 undef)=v24 at *
 show G _ _ _ [_] _ _ _ _
 refine Za rfl (Zn (Zt (Zs (Zr (Zd (OD.fieldAddr rfl rfl fa27_0) rfl ?_)))))
 refine Zd (OD.load rfl ti3 rfl (i:=6) rfl rfl) rfl ?_
 refine Zm rfl (Zn (Zt (GC.block ?_)))
 refine GC.loop (ι:=Nat × List (List Int) × List Value × Value) (fun⟨i,gs,ut,w⟩=>[(1,.pointer (some ⟨g1,0,none⟩)),(2,.pointer (some ⟨g2,0,none⟩)),(3,.pointer (some ⟨g4,0,none⟩)),(5,.int .i64 ((k:Int))),(6,v24),(55,.int .i64 (cr)),(56,.int .i64 ((i:Int)))]) (fun⟨i,gs,ut,w⟩=>ints 3 v24 (wtF cr cd (fs.getD (k) []))::many (ints 3) ut gs::lst 22 w ut::box g4 64 [.int .i64 (cr),vcd,w,.map (some g3)]::mapA keyL valI g3 (kzL 0 gs)::box g2 64 [.int .i64 (0),.slice none 0 0,.slice none 0 0,.map none]::box g1 27 [.int .i64 (cr),vcd]::own) (fun⟨i,gs,ut,w⟩=>(i≤cr.toNat)∧(gs=(List.range i).foldl (rOne cr cd (fs.getD k [])) fs)∧(AllS ut)∧(ut.length=gs.length)∧(IsS w)) (fun⟨i,gs,ut,w⟩=>cr.toNat - i) (0,fs,us,v) (⟨by omega,rfl,ha,hul,hv⟩) ⟨rfl,rfl,rfl,rfl,rfl,rfl,rfl,trivial⟩ [] 0 rfl ?_
 rintro⟨i,gs,ut,w⟩ ⟨hi,hg,hb,hut,hw⟩
 obtain⟨hkg,hgk,hgl,hxl,hxb,hal⟩:=(rtOk hty).inner hpre (by omega) hi hg
 refine Zs (Zr (Zd (OD.lss rfl rfl rfl) rfl ?_))
 refine Zn (Zt (Zs ?_))
 refine GC.cond rfl (fun hc25=>?_) (fun hc25=>?_)
 replace hc25:=of_decide_eq_true hc25
 obtain⟨hw12,hlp,hyl,hy64⟩:=(rtOk hty).nxt hxl0 hxb0 (show i<cr.toNat by omega)
 refine Zk (Zt (Zs (GC.block (Zs (Zr ?_)))))
 refine Zm rfl (Za rfl (Zn (Zt (Zs (GC.at [] 0 (env':=[(1,.pointer (some ⟨g1,0,none⟩)),(2,.pointer (some ⟨g2,0,none⟩)),(3,.pointer (some ⟨g4,0,none⟩)),(5,.int .i64 ((k:Int))),(6,v24),(55,.int .i64 (cr)),(56,.int .i64 ((i:Int))),(7,.int .i64 ((i:Int)))]) ⟨rfl,rfl,rfl,rfl,rfl,rfl,rfl,rfl,trivial⟩ rfl ?_)))))
 refine GC.par (its:=[Z0 59 (.pointer (some ⟨g4,2,none⟩)),
     Z1 60 [(0,59)] w,
     Z0 61 (.int .i64 ((k:Int))),
     Z1 62 [(1,60),(2,61)] (elemPtr w 1 (k)),
     Z1 63 [(3,62)] ((ut.getD (k) undef)),
     Z0 64 v24,
     Z0 65 (.int .i64 ((i:Int))),
     Z1 66 [(5,64),(6,65)] (elemPtr v24 1 (i)),
     Z1 67 [(7,66)] (.int .i64 ((wtF cr cd (fs.getD (k) [])).getD (i) 0)),
     Z1 68 [(8,67)] (.int .i64 (0 - (wtF cr cd (fs.getD (k) [])).getD (i) 0)),
     Z0 69 (.pointer (some ⟨g1,0,none⟩)),
     Z1 70 [(10,69)] (.int .i64 (cr)),
     Z0 71 (.int .i64 ((i:Int))),
     ⟨72,[(11,70),(12,71)],[],[],[13],fun ds=>((ds.getD 0 []).getD 0 undef),fun ds=>IsS ((ds.getD 0 []).getD 0 undef),fun ds=>[ints 3 ((ds.getD 0 []).getD 0 undef) (unitL cr.toNat i)]⟩,
     ⟨73,[(4,63),(9,68),(13,72)],[13],[],[13,14],fun ds=>((ds.getD 1 []).getD 0 undef),fun ds=>IsS ((ds.getD 1 []).getD 0 undef),fun ds=>[ints 3 ((ds.getD 1 []).getD 0 undef) (lpF (gs.getD (k) []) (0 - (wtF cr cd (fs.getD (k) [])).getD (i) 0) (unitL cr.toNat i))]⟩]) (by kernel_rfl) (by kernel_rfl) (Zc ?_ (Zc ?_ (Zc ?_ (Zc ?_ (Zc ?_ (Zc ?_ (Zc ?_ (Zc ?_ (Zc ?_ (Zc ?_ (Zc ?_ (Zc ?_ (Zc ?_ (Zc ?_ (Zc ?_ POps.nil))))))))))))))) ?_
 exact fun θ R hd=>Zq (OD.fieldAddr rfl rfl fa64_1) rfl
 exact fun θ R ⟨h0d,_⟩=>Zq (OD.load rfl ti60 rfl (i:=3) rfl rfl) rfl
 exact fun θ R hd=>Zq (OD.move rfl rfl) rfl
 exact fun θ R ⟨h1d,h2d,_⟩=>Zq (OD.indexAddr rfl et60 rfl (Ent.lst (i:=2) rfl) rfl (by omega)) rfl
 exact fun θ R ⟨h3d,_⟩=>Zq (OD.loadElem rfl ti22 rfl (Ent.lst (i:=2) rfl) (by omega) rfl) rfl
 exact fun θ R hd=>Zq (OD.move rfl rfl) rfl
 exact fun θ R hd=>Zq (OD.move rfl rfl) rfl
 exact fun θ R ⟨h5d,h6d,_⟩=>Zq (OD.indexAddr rfl et22 rfl (Ent.ints (i:=0) rfl) rfl (by omega)) rfl
 exact fun θ R ⟨h7d,_⟩=>Zq (OD.loadInt rfl ti3 rfl (Ent.ints (i:=0) rfl) (by omega)) rfl
 exact fun θ R ⟨h8d,_⟩=>Zq (OD.negI rfl rfl (by omega)) rfl
 exact fun θ R hd=>Zq (OD.fieldAddr rfl rfl fa27_0) rfl
 exact fun θ R ⟨h10d,_⟩=>Zq (OD.load rfl ti3 rfl (i:=6) rfl rfl) rfl
 exact fun θ R hd=>Zq (OD.move rfl rfl) rfl
 exact fun θ R ⟨h11d,h12d,_⟩=>Opp.plain (OG.imp (OG.call [.int .i64 (cr),.int .i64 ((i:Int))] ent75 rfl rfl rfl rfl (by exact(unit_w (by omega) (by omega)))) (by rintro v26 _ ⟨_,rfl,hs27,rfl⟩;exact⟨[v26],rfl,hs27,rfl⟩)) rfl
 exact fun θ R ⟨h4d,h9d,h13d,_⟩=>Opp.plain (OG.imp (OG.call [(ut.getD (k) undef),.int .i64 (0 - (wtF cr cd (fs.getD (k) [])).getD (i) 0),((θ 13).getD 0 undef)] ent68 rfl rfl rfl rfl (by exact(listPlus_w (hb.get (by omega)) (Ent.manyInts (i:=2) rfl ⟨by first | omega | (simp;omega),by first | omega | (simp;omega)⟩) h13d (Ent.ints (i:=0) rfl) (by omega) (by rw[unitL_len];omega)))) (by rintro v28 _ ⟨_,rfl,hs29,rfl⟩;exact⟨[v28],rfl,hs29,rfl⟩)) rfl
 intro θ hall
 obtain⟨_,_,_,_,_,_,_,_,_,_,_,_,_,h13a,h14a,_⟩:=hall
 refine G.at [] 0 (env':=[(1,.pointer (some ⟨g1,0,none⟩)),(2,.pointer (some ⟨g2,0,none⟩)),(3,.pointer (some ⟨g4,0,none⟩)),(5,.int .i64 ((k:Int))),(6,v24),(55,.int .i64 (cr)),(56,.int .i64 ((i:Int))),(7,.int .i64 ((i:Int))),(73,((θ 14).getD 0 undef))]) ⟨rfl,rfl,rfl,rfl,rfl,rfl,rfl,rfl,rfl,trivial⟩ (own':=ints 3 ((θ 13).getD 0 undef) (unitL cr.toNat i)::ints 3 ((θ 14).getD 0 undef) (lpF (gs.getD (k) []) (0 - (wtF cr cd (fs.getD (k) [])).getD (i) 0) (unitL cr.toNat i))::ints 3 v24 (wtF cr cd (fs.getD (k) []))::many (ints 3) ut gs::lst 22 w ut::box g4 64 [.int .i64 (cr),vcd,w,.map (some g3)]::mapA keyL valI g3 (kzL 0 gs)::box g2 64 [.int .i64 (0),.slice none 0 0,.slice none 0 0,.map none]::box g1 27 [.int .i64 (cr),vcd]::own) rfl ?_
 have hs30:IsS ((θ 13).getD 0 undef):=h13a
 clear h13a
 generalize ((θ 13).getD 0 undef)=v31 at *
 have hs32:IsS ((θ 14).getD 0 undef):=h14a
 clear h14a
 generalize ((θ 14).getD 0 undef)=v33 at *
 show G _ _ _ [_] _ _ _ _
 refine Za rfl (Zn (Zt (Zs (GC.ownEq (own':=ints 3 v31 (unitL cr.toNat i)::ints 3 v33 (rStep cr cd (fs.getD k []) i)::ints 3 v24 (wtF cr cd (fs.getD (k) []))::many (ints 3) ut gs::lst 22 w ut::box g4 64 [.int .i64 (cr),vcd,w,.map (some g3)]::mapA keyL valI g3 (kzL 0 gs)::box g2 64 [.int .i64 (0),.slice none 0 0,.slice none 0 0,.map none]::box g1 27 [.int .i64 (cr),vcd]::own) (by rw[hgk,hlp]) ?_))))
 refine GC.at [] 0 (env':=[(1,.pointer (some ⟨g1,0,none⟩)),(2,.pointer (some ⟨g2,0,none⟩)),(3,.pointer (some ⟨g4,0,none⟩)),(5,.int .i64 ((k:Int))),(6,v24),(55,.int .i64 (cr)),(56,.int .i64 ((i:Int))),(7,.int .i64 ((i:Int))),(8,v33)]) ⟨rfl,rfl,rfl,rfl,rfl,rfl,rfl,rfl,rfl,trivial⟩ rfl ?_
 refine GC.late (σ:=[0,1,2,3,4,5,7,6,8,9]) (L:=[7]) (its:=[Z0 75 (.pointer (some ⟨g4,3,none⟩)),
     Z1 76 [(0,75)] (.map (some g3)),
     Z0 77 v33,
     Z1 78 [(2,77)] (.string (fmtB (rStep cr cd (fs.getD k []) i))),
     Z1 79 [(1,76),(3,78)] (.tuple #[.int .i64 ((alu (rStep cr cd (fs.getD k []) i) (kzL 0 gs)).getD 0),.bool ((alu (rStep cr cd (fs.getD k []) i) (kzL 0 gs)).isSome)]),
     Z1 74 [(4,79)] (.tuple #[.int .i64 ((alu (rStep cr cd (fs.getD k []) i) (kzL 0 gs)).getD 0),.bool ((alu (rStep cr cd (fs.getD k []) i) (kzL 0 gs)).isSome)]),
     Z1 81 [(5,74)] (.bool ((alu (rStep cr cd (fs.getD k []) i) (kzL 0 gs)).isSome)),
     Z1 80 [(5,74)] (.int .i64 ((alu (rStep cr cd (fs.getD k []) i) (kzL 0 gs)).getD 0))]) (by kernel_rfl) (by repeat (first | refine PanQ.then_ ?_ | refine PanQ.block ?_ | exact PanQ.body)) (by kernel_rfl) ⟨⟨_,rfl,.inl rfl⟩,trivial⟩ (by kernel_rfl) (Zc ?_ (Zc ?_ (Zc ?_ (Zc ?_ (Zc ?_ (Zc ?_ (Zc ?_ (Zc ?_ POps.nil)))))))) ?_
 exact fun θ R hd=>Zq (OD.fieldAddr rfl rfl fa64_2) rfl
 exact fun θ R ⟨h0d,_⟩=>Zq (OD.load rfl ti62 rfl (i:=5) rfl rfl) rfl
 exact fun θ R hd=>Zq (OD.move rfl rfl) rfl
 exact fun θ R ⟨h2d,_⟩=>Zq (OG.call [v33] ent98 rfl rfl rfl rfl (by exact(formatInts_w hs32 (Ent.ints (i:=1) rfl) (hy64) (by first | omega | (rw[units_get,unitL_len];omega)) ((Ent.drop 9 htab.app))))) rfl
 exact fun θ R ⟨h1d,h3d,_⟩=>Zq (OD.lookupOk (k:=(rStep cr cd (fs.getD k []) i)) rfl mt62 ke9keyL rfl rfl (Ent.map (kE:=keyL) (vE:=valI) (l:=kzL 0 gs) (i:=6) rfl)) rfl
 exact fun θ R ⟨h4d,_⟩=>Zq (OD.move rfl rfl) rfl
 exact fun θ R ⟨h5d,_⟩=>Zq (OD.extract rfl rfl rfl) rfl
 exact fun θ R ⟨h5d,_⟩=>Zq (OD.extract rfl rfl rfl) rfl
 intro θ hall
 obtain⟨_,_,_,_,_,_,_,_,_⟩:=hall
 refine G.at [] 0 (env':=[(1,.pointer (some ⟨g1,0,none⟩)),(2,.pointer (some ⟨g2,0,none⟩)),(3,.pointer (some ⟨g4,0,none⟩)),(5,.int .i64 ((k:Int))),(6,v24),(55,.int .i64 (cr)),(56,.int .i64 ((i:Int))),(7,.int .i64 ((i:Int))),(8,v33),(81,.bool ((alu (rStep cr cd (fs.getD k []) i) (kzL 0 gs)).isSome)),(80,.int .i64 ((alu (rStep cr cd (fs.getD k []) i) (kzL 0 gs)).getD 0))]) ⟨rfl,rfl,rfl,rfl,rfl,rfl,rfl,rfl,rfl,rfl,rfl,trivial⟩ (own':=ints 3 v31 (unitL cr.toNat i)::ints 3 v33 (rStep cr cd (fs.getD k []) i)::ints 3 v24 (wtF cr cd (fs.getD (k) []))::many (ints 3) ut gs::lst 22 w ut::box g4 64 [.int .i64 (cr),vcd,w,.map (some g3)]::mapA keyL valI g3 (kzL 0 gs)::box g2 64 [.int .i64 (0),.slice none 0 0,.slice none 0 0,.map none]::box g1 27 [.int .i64 (cr),vcd]::own) rfl ?_
 show G _ _ _ [_,_] _ _ _ _
 refine Za rfl (Za rfl (Zn (Zt (Zs (Zr (Zm rfl (Zd (OD.not rfl rfl) rfl ?_)))))))
 refine Zm rfl ?_
 rcases Bool.eq_false_or_eq_true (!((alu (rStep cr cd (fs.getD k []) i) (kzL 0 gs)).isSome)) with hg34 | hg34
 have hg34e:=hg34
 refine G.at [] 0 (env':=[(1,.pointer (some ⟨g1,0,none⟩)),(2,.pointer (some ⟨g2,0,none⟩)),(3,.pointer (some ⟨g4,0,none⟩)),(5,.int .i64 ((k:Int))),(6,v24),(55,.int .i64 (cr)),(56,.int .i64 ((i:Int))),(7,.int .i64 ((i:Int))),(8,v33),(81,.bool ((alu (rStep cr cd (fs.getD k []) i) (kzL 0 gs)).isSome)),(80,.int .i64 ((alu (rStep cr cd (fs.getD k []) i) (kzL 0 gs)).getD 0)),(9,.int .i64 ((alu (rStep cr cd (fs.getD k []) i) (kzL 0 gs)).getD 0)),(10,.bool ((alu (rStep cr cd (fs.getD k []) i) (kzL 0 gs)).isSome)),(82,.bool ((alu (rStep cr cd (fs.getD k []) i) (kzL 0 gs)).isSome)),(83,.bool true),(84,.bool true)]) (⟨rfl,rfl,rfl,rfl,rfl,rfl,rfl,rfl,rfl,rfl,rfl,rfl,rfl,rfl,(congrArg (fun b=>some (Value.bool b)) hg34e),(congrArg (fun b=>some (Value.bool b)) hg34e),trivial⟩) rfl ?_
 replace hg34:=eq_false_of_not hg34
 refine G.stepGD (OD.move rfl rfl) rfl rfl rfl rfl rfl ?_
 refine G.stepGD (OD.move rfl rfl) rfl rfl rfl rfl rfl ?_
 refine G.stepGD (OD.indexAddr rfl et22 rfl (Ent.ints (i:=1) rfl) rfl (by omega)) rfl rfl rfl rfl rfl ?_
 refine G.stepGD (OD.loadInt rfl ti3 rfl (Ent.ints (i:=1) rfl) (by omega)) rfl rfl rfl rfl rfl ?_
 refine G.stepGD (OD.geq rfl rfl rfl) rfl rfl rfl rfl rfl ?_
 refine Zd (OD.pickT rfl rfl rfl) rfl ?_
 refine Zn (Zt ?_)
 refine GC.cond rfl (fun hc35=>?_) (fun hc35=>?_)
 replace hc35:=of_decide_eq_true hc35
 refine Zs (GC.at [] 0 (env':=[(1,.pointer (some ⟨g1,0,none⟩)),(2,.pointer (some ⟨g2,0,none⟩)),(3,.pointer (some ⟨g4,0,none⟩)),(5,.int .i64 ((k:Int))),(6,v24),(55,.int .i64 (cr)),(56,.int .i64 ((i:Int))),(8,v33)]) ⟨rfl,rfl,rfl,rfl,rfl,rfl,rfl,rfl,trivial⟩ rfl ?_)
 refine GC.par (its:=[Z0 91 (.pointer (some ⟨g4,3,none⟩)),
     Z1 92 [(0,91)] (.map (some g3)),
     Z0 93 v33,
     Z1 94 [(2,93)] (.string (fmtB (rStep cr cd (fs.getD k []) i))),
     Z0 95 (.pointer (some ⟨g4,2,none⟩)),
     Z1 96 [(4,95)] w,
     Z1 97 [(5,96)] (.int .i64 ((ut.length:Nat)))]) (by kernel_rfl) (by kernel_rfl) (Zc ?_ (Zc ?_ (Zc ?_ (Zc ?_ (Zc ?_ (Zc ?_ (Zc ?_ POps.nil))))))) ?_
 exact fun θ R hd=>Zq (OD.fieldAddr rfl rfl fa64_2) rfl
 exact fun θ R ⟨h0d,_⟩=>Zq (OD.load rfl ti62 rfl (i:=5) rfl rfl) rfl
 exact fun θ R hd=>Zq (OD.move rfl rfl) rfl
 exact fun θ R ⟨h2d,_⟩=>Zq (OG.call [v33] ent98 rfl rfl rfl rfl (by exact(formatInts_w hs32 (Ent.ints (i:=1) rfl) (hy64) (by first | omega | (rw[units_get,unitL_len];omega)) ((Ent.drop 9 htab.app))))) rfl
 exact fun θ R hd=>Zq (OD.fieldAddr rfl rfl fa64_1) rfl
 exact fun θ R ⟨h4d,_⟩=>Zq (OD.load rfl ti60 rfl (i:=5) rfl rfl) rfl
 exact fun θ R ⟨h5d,_⟩=>Zq (OD.len rfl rfl et60 rfl (Ent.lst (i:=4) rfl)) rfl
 intro θ hall
 obtain⟨_,_,_,_,_,_,_,_⟩:=hall
 refine G.at [] 0 (env':=[(1,.pointer (some ⟨g1,0,none⟩)),(2,.pointer (some ⟨g2,0,none⟩)),(3,.pointer (some ⟨g4,0,none⟩)),(5,.int .i64 ((k:Int))),(6,v24),(55,.int .i64 (cr)),(56,.int .i64 ((i:Int))),(8,v33),(92,.map (some g3)),(94,.string (fmtB (rStep cr cd (fs.getD k []) i))),(97,.int .i64 ((ut.length:Nat)))]) ⟨rfl,rfl,rfl,rfl,rfl,rfl,rfl,rfl,rfl,rfl,rfl,trivial⟩ (own':=ints 3 v31 (unitL cr.toNat i)::ints 3 v33 (rStep cr cd (fs.getD k []) i)::ints 3 v24 (wtF cr cd (fs.getD (k) []))::many (ints 3) ut gs::lst 22 w ut::box g4 64 [.int .i64 (cr),vcd,w,.map (some g3)]::mapA keyL valI g3 (kzL 0 gs)::box g2 64 [.int .i64 (0),.slice none 0 0,.slice none 0 0,.map none]::box g1 27 [.int .i64 (cr),vcd]::own) rfl ?_
 show G _ _ _ [_] _ _ _ _
 refine G.stepD0 (OD.mapUpdate (kE:=keyL) (vE:=valI) (l:=kzL 0 gs) (k:=(rStep cr cd (fs.getD k []) i)) (b:=((ut.length:Nat):Int)) rfl mt62.ht ke9keyL rfl rfl rfl (i:=6) rfl) rfl rfl ?_
 refine Zn (Zt (Zr (Zd (OD.fieldAddr rfl rfl fa64_1) rfl ?_)))
 refine Zd (OD.load rfl ti60 rfl (i:=5) rfl rfl) rfl ?_
 refine Zm rfl (G.step (OG.buildLst (xs:=[.tmp 100]) (us:=[v33]) rfl et60 rfl rfl rfl (allC (IsS.one hs32) rfl) rfl) rfl rfl rfl ?_)
 rintro v36 _ ⟨hs37,rfl⟩
 refine G.step (OG.appendLst 5 rfl rfl et60 rfl rfl rfl (Ent.lst (i:=0) rfl) (List.all_eq_true.2 fun u hu=>by simpa using(AllS.snoc AllS.nil hs32).one u hu) (by simp[maxLen] <;> omega)) rfl rfl rfl ?_
 rintro v38 _ ⟨hs39,rfl⟩
 refine Zd (OD.fieldAddr rfl rfl fa64_1) rfl ?_
 refine G.stepD0 (OD.store rfl ti60 rfl rfl (us:=[v38]) (one_cells (IsS.one hs39)) rfl (allC (IsS.one hs39) rfl) (i:=6) rfl rfl) rfl rfl ?_
 refine Zn (GE.blockN (Zt (Zr ?_)))
 refine Zd (OD.addI rfl rfl rfl (by omega)) rfl ?_
 refine Zm rfl (Zn ?_)
 refine GE.at [2,3,0,0,0,0,0,0,0,0] 0 (env':=[(1,.pointer (some ⟨g1,0,none⟩)),(2,.pointer (some ⟨g2,0,none⟩)),(3,.pointer (some ⟨g4,0,none⟩)),(5,.int .i64 ((k:Int))),(6,v24),(55,.int .i64 (cr)),(8,v33),(92,.map (some g3)),(94,.string (fmtB (rStep cr cd (fs.getD k []) i))),(97,.int .i64 ((ut.length:Nat))),(98,.pointer (some ⟨g4,2,none⟩)),(99,w),(100,v33),(101,v36),(102,v38),(103,.pointer (some ⟨g4,2,none⟩)),(104,.int .i64 ((i:Int)+1)),(56,.int .i64 ((i:Int)+1))]) ⟨rfl,rfl,rfl,rfl,rfl,rfl,rfl,rfl,rfl,rfl,rfl,rfl,rfl,rfl,rfl,rfl,rfl,rfl,trivial⟩ (own':=ints 3 v33 (rStep cr cd (fs.getD k []) i)::many (ints 3) ut gs::lst 22 v36 [v33]::ints 3 v31 (unitL cr.toNat i)::ints 3 v24 (wtF cr cd (fs.getD (k) []))::lst 22 v38 (ut++[v33])::box g4 64 [.int .i64 (cr),vcd,v38,.map (some g3)]::mapA keyL valI g3 (aup (rStep cr cd (fs.getD k []) i) ((ut.length:Nat):Int) (kzL 0 gs))::box g2 64 [.int .i64 (0),.slice none 0 0,.slice none 0 0,.map none]::box g1 27 [.int .i64 (cr),vcd]::own) rfl ?_
 refine GE.manyPush (by omega) ?_
 refine GE.ownEq (own':=many (ints 3) (ut++[v33]) (gs++[rStep cr cd (fs.getD k []) i])::lst 22 v36 [v33]::ints 3 v31 (unitL cr.toNat i)::ints 3 v24 (wtF cr cd (fs.getD (k) []))::lst 22 v38 (ut++[v33])::box g4 64 [.int .i64 (cr),vcd,v38,.map (some g3)]::mapA keyL valI g3 (kzL 0 (gs++[rStep cr cd (fs.getD k []) i]))::box g2 64 [.int .i64 (0),.slice none 0 0,.slice none 0 0,.map none]::box g1 27 [.int .i64 (cr),vcd]::own) (by rw[aup_new hg34 hut] <;> rfl) ?_
 exact GE.again (i+1,gs++[rStep cr cd (fs.getD k []) i],ut++[v33],v38) (⟨by omega,fold_next hg (rOne_k3 (fun j=>(hxb0 j).1) (by omega) hg34 hc35),(hb.snoc hs32),by rw[List.length_append,List.length_append];simp;omega,hs39⟩) (by first | omega | (dsimp only;omega)) ⟨rfl,rfl,rfl,rfl,rfl,rfl,rfl,trivial⟩ [3,0,2,2,2,2,2] 2 rfl
 replace hc35:=of_decide_eq_false hc35
 refine Zk (GE.blockN (Zt (Zr ?_)))
 refine Zd (OD.addI rfl rfl rfl (by omega)) rfl ?_
 exact Zm rfl (Zn (GE.again (i+1,gs,ut,w) (⟨by omega,fold_next hg (rOne_k2 (fun j=>(hxb0 j).1) (by omega) hc35),hb,hut,hw⟩) (by first | omega | (dsimp only;omega)) ⟨rfl,rfl,rfl,rfl,rfl,rfl,rfl,trivial⟩ [2,2,2,2,2,2,2] 2 rfl))
 have hg34e:=hg34
 refine G.at [] 0 (env':=[(1,.pointer (some ⟨g1,0,none⟩)),(2,.pointer (some ⟨g2,0,none⟩)),(3,.pointer (some ⟨g4,0,none⟩)),(5,.int .i64 ((k:Int))),(6,v24),(55,.int .i64 (cr)),(56,.int .i64 ((i:Int))),(7,.int .i64 ((i:Int))),(8,v33),(81,.bool ((alu (rStep cr cd (fs.getD k []) i) (kzL 0 gs)).isSome)),(80,.int .i64 ((alu (rStep cr cd (fs.getD k []) i) (kzL 0 gs)).getD 0)),(9,.int .i64 ((alu (rStep cr cd (fs.getD k []) i) (kzL 0 gs)).getD 0)),(10,.bool ((alu (rStep cr cd (fs.getD k []) i) (kzL 0 gs)).isSome)),(82,.bool ((alu (rStep cr cd (fs.getD k []) i) (kzL 0 gs)).isSome)),(83,.bool false),(84,.bool false)]) (⟨rfl,rfl,rfl,rfl,rfl,rfl,rfl,rfl,rfl,rfl,rfl,rfl,rfl,rfl,(congrArg (fun b=>some (Value.bool b)) hg34e),(congrArg (fun b=>some (Value.bool b)) hg34e),trivial⟩) rfl ?_
 replace hg34:=eq_true_of_not hg34
 refine G.skipG rfl rfl rfl rfl rfl rfl (G.skipG rfl rfl rfl rfl rfl rfl (G.skipG rfl rfl rfl rfl rfl rfl (G.skipG rfl rfl rfl rfl rfl rfl (G.skipG rfl rfl rfl rfl rfl rfl ?_))))
 refine Zd (OD.pickF rfl rfl rfl) rfl ?_
 refine Zn (Zt (GC.condF rfl (Zk (GE.blockN (Zt (Zr ?_))))))
 refine Zd (OD.addI rfl rfl rfl (by omega)) rfl ?_
 exact Zm rfl (Zn (GE.again (i+1,gs,ut,w) (⟨by omega,fold_next hg (rOne_k1 hg34),hb,hut,hw⟩) (by first | omega | (dsimp only;omega)) ⟨rfl,rfl,rfl,rfl,rfl,rfl,rfl,trivial⟩ [2,2,2,2,2,2,2] 2 rfl))
 replace hc25:=of_decide_eq_false hc25
 refine GC.exit (Zp (Zp (GE.hit (GE.blockN (Zt (Zr ?_))))))
 refine Zm rfl (Zd (OD.addI rfl rfl rfl (by omega)) rfl ?_)
 exact Za rfl (Zn (GE.again (g,k+1,gs,ut,w) (⟨by rw[hg,show i=cr.toNat by omega];exact hst,hb,hut,hw⟩) (by first | omega | (dsimp only;omega)) ⟨rfl,rfl,rfl,rfl,trivial⟩ [1,1,1,1,1,1] 1 rfl))
 replace hc20:=of_decide_eq_false hc20
 have hfe:=rC_end hf (by omega)
 subst hfe
 have hps:=(rtOk hty).pos
 have hlo:=(rtOk hty).lo
 have hfw:=(rtOk hty).few
 refine GC.exit (Zp (Zp (GE.hit (Zt (Zs (Zr ?_))))))
 refine Zd (OD.fieldAddr rfl rfl fa64_1) rfl ?_
 refine Zd (OD.load rfl ti60 rfl (i:=2) rfl rfl) rfl ?_
 refine G.at [1,0,0,0,0,0] 0 (env':=[(1,.pointer (some ⟨g1,0,none⟩)),(2,.pointer (some ⟨g2,0,none⟩)),(3,.pointer (some ⟨g4,0,none⟩)),(5,.int .i64 ((k:Int))),(40,.int .i64 ((k:Int))),(41,.pointer (some ⟨g4,2,none⟩)),(42,v),(43,.int .i64 ((us.length:Nat))),(44,.bool (decide ((k:Int)<(us.length:Nat)))),(105,.pointer (some ⟨g4,2,none⟩)),(106,v)]) ⟨rfl,rfl,rfl,rfl,rfl,rfl,rfl,rfl,rfl,rfl,rfl,trivial⟩ (own':=lst 22 v us::many (ints 3) us (rFd cr cd)::box g4 64 [.int .i64 (cr),vcd,v,.map (some g3)]::mapA keyL valI g3 (kzL 0 (rFd cr cd))::box g2 64 [.int .i64 (0),.slice none 0 0,.slice none 0 0,.map none]::box g1 27 [.int .i64 (cr),vcd]::own) rfl ?_
 refine G.step (OG.call [v,.func (.func 113) #[] #[]] ent112 rfl rfl rfl rfl (by exact(sort_w strict_rcmp tells_rcmp ent113 hv ha hul (by omega) (by omega) (fun x hx=>by have:=(rtOk hty).len x hx;omega)))) rfl rfl rfl ?_
 rintro _ _ ⟨ws,xs,rfl,haw,hlw,hpw,hsw,rfl⟩
 obtain rfl:=(rtOk hty).sorted hpw (hsw.imp fun h=>decide_eq_false h)
 have hsn:=(rtOk hty).slen
 skip
 refine Zn (Zt (Zs (Zs (Zr (Zd (OD.fieldAddr rfl rfl fa64_1) rfl ?_)))))
 refine Zd (OD.load rfl ti60 rfl (i:=2) rfl rfl) rfl ?_
 refine Zd (OD.len rfl rfl et60 rfl (Ent.lst (i:=0) rfl)) rfl ?_
 refine Zm rfl (Zn (Zt (GC.block ?_)))
 refine GC.loop (ι:=Nat) (fun p=>[(2,.pointer (some ⟨g2,0,none⟩)),(3,.pointer (some ⟨g4,0,none⟩)),(109,v),(110,.int .i64 ((ws.length:Nat))),(111,.int .i64 ((p:Int)))]) (fun p=>lst 22 v ws::many (ints 3) ws (rSt cr cd)::box g4 64 [.int .i64 (cr),vcd,v,.map (some g3)]::mapA keyL valI g3 (rPl (rSt cr cd) p (kzL 0 (rFd cr cd)))::box g2 64 [.int .i64 (0),.slice none 0 0,.slice none 0 0,.map none]::box g1 27 [.int .i64 (cr),vcd]::own) (fun p=>(p≤(rSt cr cd).length)) (fun p=>(rSt cr cd).length - p) 0 (by omega) ⟨rfl,rfl,rfl,rfl,rfl,trivial⟩ [] 0 rfl ?_
 rintro p hp
 refine Zs (Zr (Zd (OD.lss rfl rfl rfl) rfl ?_))
 refine Zn (Zt (Zs ?_))
 refine GC.cond rfl (fun hc40=>?_) (fun hc40=>?_)
 replace hc40:=of_decide_eq_true hc40
 obtain⟨hsl,hsb⟩:=(rtOk hty).sget (show p<(rSt cr cd).length by omega)
 have hs64:All64 ((rSt cr cd).getD p []):=all64_of fun j _=>by have:=hsb j;omega
 refine Zk (Zt (Zs (GC.block (Zs (Zr ?_)))))
 refine Zm rfl (Zd (OD.indexAddr rfl et60 rfl (Ent.lst (i:=0) rfl) rfl (by omega)) rfl ?_)
 refine Zd (OD.loadElem rfl ti22 rfl (Ent.lst (i:=0) rfl) (by omega) rfl) rfl ?_
 refine Za rfl (Za rfl (Zn (Zt (GC.at [] 0 (env':=[(2,.pointer (some ⟨g2,0,none⟩)),(3,.pointer (some ⟨g4,0,none⟩)),(109,v),(110,.int .i64 ((ws.length:Nat))),(111,.int .i64 ((p:Int))),(11,.int .i64 ((p:Int))),(12,(ws.getD (p) undef))]) ⟨rfl,rfl,rfl,rfl,rfl,rfl,rfl,trivial⟩ rfl ?_))))
 refine GC.par (its:=[Z0 116 (.pointer (some ⟨g4,3,none⟩)),
     Z1 117 [(0,116)] (.map (some g3)),
     Z0 118 ((ws.getD (p) undef)),
     Z1 119 [(2,118)] (.string (fmtB ((rSt cr cd).getD (p) []))),
     Z0 120 (.int .i64 ((p:Int)))]) (by kernel_rfl) (by kernel_rfl) (Zc ?_ (Zc ?_ (Zc ?_ (Zc ?_ (Zc ?_ POps.nil))))) ?_
 exact fun θ R hd=>Zq (OD.fieldAddr rfl rfl fa64_2) rfl
 exact fun θ R ⟨h0d,_⟩=>Zq (OD.load rfl ti62 rfl (i:=2) rfl rfl) rfl
 exact fun θ R hd=>Zq (OD.move rfl rfl) rfl
 exact fun θ R ⟨h2d,_⟩=>Zq (OG.call [(ws.getD (p) undef)] ent98 rfl rfl rfl rfl (by exact(formatInts_w (haw.get (by omega)) (Ent.manyInts (i:=1) rfl ⟨by first | omega | (simp;omega),by first | omega | (simp;omega)⟩) (hs64) (by first | omega | (rw[units_get,unitL_len];omega)) ((Ent.drop 6 htab.app))))) rfl
 exact fun θ R hd=>Zq (OD.move rfl rfl) rfl
 intro θ hall
 obtain⟨_,_,_,_,_,_⟩:=hall
 refine G.at [] 0 (env':=[(2,.pointer (some ⟨g2,0,none⟩)),(3,.pointer (some ⟨g4,0,none⟩)),(109,v),(110,.int .i64 ((ws.length:Nat))),(111,.int .i64 ((p:Int))),(117,.map (some g3)),(119,.string (fmtB ((rSt cr cd).getD (p) []))),(120,.int .i64 ((p:Int)))]) ⟨rfl,rfl,rfl,rfl,rfl,rfl,rfl,rfl,trivial⟩ (own':=lst 22 v ws::many (ints 3) ws (rSt cr cd)::box g4 64 [.int .i64 (cr),vcd,v,.map (some g3)]::mapA keyL valI g3 (rPl (rSt cr cd) p (kzL 0 (rFd cr cd)))::box g2 64 [.int .i64 (0),.slice none 0 0,.slice none 0 0,.map none]::box g1 27 [.int .i64 (cr),vcd]::own) rfl ?_
 show G _ _ _ [_] _ _ _ _
 refine G.stepD0 (OD.mapUpdate (kE:=keyL) (vE:=valI) (l:=rPl (rSt cr cd) p (kzL 0 (rFd cr cd))) (k:=((rSt cr cd).getD (p) [])) (b:=((p:Int):Int)) rfl mt62.ht ke9keyL rfl rfl rfl (i:=3) rfl) rfl rfl ?_
 refine Zn (GE.blockN (Zt (Zr ?_)))
 refine Zd (OD.addI rfl rfl rfl (by omega)) rfl ?_
 refine Zm rfl (Zn (GE.ownEq (own':=lst 22 v ws::many (ints 3) ws (rSt cr cd)::box g4 64 [.int .i64 (cr),vcd,v,.map (some g3)]::mapA keyL valI g3 (rPl (rSt cr cd) (p+1) (kzL 0 (rFd cr cd)))::box g2 64 [.int .i64 (0),.slice none 0 0,.slice none 0 0,.map none]::box g1 27 [.int .i64 (cr),vcd]::own) (by rw[rPl_succ] <;> rfl) ?_))
 exact GE.again (p+1) (by omega) (by first | omega | (dsimp only;omega)) ⟨rfl,rfl,rfl,rfl,rfl,trivial⟩ [] 0 rfl
 replace hc40:=of_decide_eq_false hc40
 refine GC.exit (Zp (Zp (GE.hit (Zt (Zs (Zr ?_))))))
 refine Zd (OD.loadAgg rfl ti64 rfl (i:=2) rfl (us:=[.int .i64 (cr),vcd,v,.map (some g3)]) rfl rfl) rfl ?_
 refine G.stepD0 (OD.store rfl ti64 rfl rfl (us:=[.int .i64 (cr),vcd,v,.map (some g3)]) rfl rfl (allC rfl (allC (IsS.one scd) (allC (IsS.one hv) (allC rfl rfl)))) (i:=4) rfl rfl) rfl rfl ?_
 refine Zn (Zt (GC.ret ?_))
 exact GE.body [0,0,1] 3 (resN rfl (RVs.cons (rv_cells ti64 rfl (i:=4) rfl rfl) RVs.nil) rfl) rfl (⟨v,ws,g3,rfl,hv,haw,(hlw),cong2 (fun(l0:List (List Int)) (l1:List (List Int × Int))=>lst 22 v ws::many (ints 3) ws l0::mapA keyL valI g3 l1::own) (rfl) ((by rw[show p=(rSt cr cd).length by omega];rfl:rPl (rSt cr cd) p (kzL 0 (rFd cr cd))=rKvs cr cd))⟩)
theorem find_w {W:World}{own:List Asn}{rr:Int}{vrd:Value}{vrs:Value}{urs:List Value}{rs:Nat}{grm:Nat}{rm:List (List Int × Int)}{vx:Value}{x:List Int}(srd:IsS vrd)(srs:IsS vrs)(ers:Ent own fun w=>Sl w vrs rs 1 urs)(hrm:Ent own (MapIs keyL valI grm rm))(sx:IsS vx)(ex:Ent own fun w=>Ints w vx x)(hrr:rr≤4)(hx:All64 x)(hxl:x.length≤1073741824)(htab:Ent own Pow10):Spec Tryz.prog 117 [.agg #[.int .i64 (rr),vrd,vrs,.map (some grm)],vx] W own (fun v ow=>v = .tuple #[.int .i64 (fdP rr rm x),.bool (fdS rr rm x),.bool (fdB rr rm x)]∧ow=own):=by
 refine Spec.enter Tryz.f117 _ Tryz.func117 rfl (n:=38) rfl rfl ?_
 refine Zs (Zr (G.step (OG.box (cs:=[.int .i64 (rr),vrd,vrs,.map (some grm)]) rfl rfl rfl) rfl rfl rfl ?_))
 rintro _ _ ⟨g1,rfl,rfl⟩
 refine Za rfl (Za rfl (Za rfl (Zn (Zt (Zs (Zs (Zr (Zm rfl (Zd (OD.len rfl rfl et22 rfl (Ent.drop 1 ex)) rfl ?_)))))))))
 refine Zd (OD.fieldAddr rfl rfl fa64_0) rfl ?_
 refine Zd (OD.fieldAddr rfl rfl fa27_0) rfl ?_
 refine Zd (OD.load rfl ti3 rfl (i:=0) rfl rfl) rfl ?_
 refine Zd (OD.neq rfl rfl rfl) rfl ?_
 refine Zn (Zt ?_)
 refine GC.cond rfl (fun hc2=>?_) (fun hc2=>?_)
 replace hc2:=ne_of_bne hc2
 refine Zs (Zr (Za rfl (Za rfl (Za rfl (Zn (Zt (GC.ret (GE.passR ?_))))))))
 exact GE.body [] 1 (resN rfl (RVs.cons (rv_tmp rfl) (RVs.cons (rv_tmp rfl) (RVs.cons (rv_tmp rfl) RVs.nil))) rfl) rfl (⟨congr (congr (congrArg (fun(a0:Int) (a1:Bool) (a2:Bool)=>(.tuple #[.int .i64 (a0),.bool (a1),.bool (a2)]:Value)) ((by rw[fdP,if_pos hc2]:(0:Int)=fdP rr rm x))) ((by rw[fdS,decide_eq_false hc2] <;> rfl:(false:Bool)=fdS rr rm x))) ((by rw[fdB,decide_eq_false hc2] <;> rfl:(false:Bool)=fdB rr rm x)),rfl⟩)
 replace hc2:=eq_of_bne_false hc2
 refine Zk (Zt (Zs (Zs (GC.at [] 0 (env':=[(1,vx),(2,.pointer (some ⟨g1,0,none⟩))]) ⟨rfl,rfl,trivial⟩ rfl ?_))))
 refine GC.late (σ:=[0,1,2,3,4,5,7,6,8,9]) (L:=[7]) (its:=[Z0 18 (.pointer (some ⟨g1,3,none⟩)),
     Z1 19 [(0,18)] (.map (some grm)),
     Z0 20 vx,
     Z1 21 [(2,20)] (.string (fmtB x)),
     Z1 22 [(1,19),(3,21)] (.tuple #[.int .i64 ((alu x rm).getD 0),.bool ((alu x rm).isSome)]),
     Z1 17 [(4,22)] (.tuple #[.int .i64 ((alu x rm).getD 0),.bool ((alu x rm).isSome)]),
     Z1 24 [(5,17)] (.bool ((alu x rm).isSome)),
     Z1 23 [(5,17)] (.int .i64 ((alu x rm).getD 0))]) (by kernel_rfl) (by repeat (first | refine PanQ.then_ ?_ | refine PanQ.block ?_ | exact PanQ.body)) (by kernel_rfl) ⟨⟨_,rfl,.inl rfl⟩,trivial⟩ (by kernel_rfl) (Zc ?_ (Zc ?_ (Zc ?_ (Zc ?_ (Zc ?_ (Zc ?_ (Zc ?_ (Zc ?_ POps.nil)))))))) ?_
 exact fun θ R hd=>Zq (OD.fieldAddr rfl rfl fa64_2) rfl
 exact fun θ R ⟨h0d,_⟩=>Zq (OD.load rfl ti62 rfl (i:=0) rfl rfl) rfl
 exact fun θ R hd=>Zq (OD.move rfl rfl) rfl
 exact fun θ R ⟨h2d,_⟩=>Zq (OG.call [vx] ent98 rfl rfl rfl rfl (by exact(formatInts_w sx (Ent.drop 1 ex.app) (hx) (by first | omega | (have:=ngF_len x;unfold ngF at this;omega)) ((Ent.drop 1 htab.app))))) rfl
 exact fun θ R ⟨h1d,h3d,_⟩=>Zq (OD.lookupOk (k:=x) rfl mt62 ke9keyL rfl rfl (Ent.drop 1 hrm.app)) rfl
 exact fun θ R ⟨h4d,_⟩=>Zq (OD.move rfl rfl) rfl
 exact fun θ R ⟨h5d,_⟩=>Zq (OD.extract rfl rfl rfl) rfl
 exact fun θ R ⟨h5d,_⟩=>Zq (OD.extract rfl rfl rfl) rfl
 intro θ hall
 obtain⟨_,_,_,_,_,_,_,_,_⟩:=hall
 refine G.at [] 0 (env':=[(1,vx),(2,.pointer (some ⟨g1,0,none⟩)),(24,.bool ((alu x rm).isSome)),(23,.int .i64 ((alu x rm).getD 0))]) ⟨rfl,rfl,rfl,rfl,trivial⟩ (own':=box g1 64 [.int .i64 (rr),vrd,vrs,.map (some grm)]::own) rfl ?_
 show G _ _ _ [_,_] _ _ _ _
 refine Za rfl (Za rfl (Zn (Zt (Zs (Zr (Zm rfl (Zn (Zt ?_))))))))
 refine GC.cond rfl (fun hc3=>?_) (fun hc3=>?_)
 refine Zs (Zr (Zm rfl (Za rfl (Za rfl (Za rfl (Zn (Zt (GC.ret (GE.passR ?_)))))))))
 exact GE.body [] 1 (resN rfl (RVs.cons (rv_tmp rfl) (RVs.cons (rv_tmp rfl) (RVs.cons (rv_tmp rfl) RVs.nil))) rfl) rfl (⟨congr (congr (congrArg (fun(a0:Int) (a1:Bool) (a2:Bool)=>(.tuple #[.int .i64 (a0),.bool (a1),.bool (a2)]:Value)) ((by rw[fdP,if_neg (fun h=>h hc2),if_pos hc3] <;> rfl:((alu x rm).getD 0:Int)=fdP rr rm x))) ((by rw[fdS,decide_eq_true hc2,hc3] <;> rfl:(true:Bool)=fdS rr rm x))) ((by rw[fdB,decide_eq_true hc2,hc3] <;> rfl:(true:Bool)=fdB rr rm x)),rfl⟩)
 refine Zk (Zt (Zs (GC.at [] 0 (env':=[(1,vx),(2,.pointer (some ⟨g1,0,none⟩))]) ⟨rfl,rfl,trivial⟩ rfl ?_)))
 refine GC.late (σ:=[0,1,2,3,4,5,6,8,7,9,10]) (L:=[8]) (its:=[Z0 28 (.pointer (some ⟨g1,3,none⟩)),
     Z1 29 [(0,28)] (.map (some grm)),
     Z0 30 vx,
     ⟨31,[(2,30)],[],[],[3],fun ds=>((ds.getD 0 []).getD 0 undef),fun ds=>IsS ((ds.getD 0 []).getD 0 undef),fun ds=>[ints 3 ((ds.getD 0 []).getD 0 undef) (lpF (List.replicate x.length 0) (-1) x)]⟩,
     ⟨32,[(3,31)],[3],[],[3],fun _ => .string (fmtB (lpF (List.replicate x.length 0) (-1) x)),fun _=>True,fun _=>[]⟩,
     ⟨33,[(1,29),(4,32)],[3],[],[3],fun _ => .tuple #[.int .i64 ((alu (lpF (List.replicate x.length 0) (-1) x) rm).getD 0),.bool ((alu (lpF (List.replicate x.length 0) (-1) x) rm).isSome)],fun _=>True,fun _=>[]⟩,
     ⟨27,[(5,33)],[3],[],[3],fun _ => .tuple #[.int .i64 ((alu (lpF (List.replicate x.length 0) (-1) x) rm).getD 0),.bool ((alu (lpF (List.replicate x.length 0) (-1) x) rm).isSome)],fun _=>True,fun _=>[]⟩,
     ⟨35,[(6,27)],[3],[],[3],fun _ => .bool ((alu (lpF (List.replicate x.length 0) (-1) x) rm).isSome),fun _=>True,fun _=>[]⟩,
     ⟨34,[(6,27)],[3],[],[3],fun _ => .int .i64 ((alu (lpF (List.replicate x.length 0) (-1) x) rm).getD 0),fun _=>True,fun _=>[]⟩]) (by kernel_rfl) (by repeat (first | refine PanQ.then_ ?_ | refine PanQ.block ?_ | exact PanQ.body)) (by kernel_rfl) ⟨⟨_,rfl,.inl rfl⟩,trivial⟩ (by kernel_rfl) (Zc ?_ (Zc ?_ (Zc ?_ (Zc ?_ (Zc ?_ (Zc ?_ (Zc ?_ (Zc ?_ (Zc ?_ POps.nil))))))))) ?_
 exact fun θ R hd=>Zq (OD.fieldAddr rfl rfl fa64_2) rfl
 exact fun θ R ⟨h0d,_⟩=>Zq (OD.load rfl ti62 rfl (i:=0) rfl rfl) rfl
 exact fun θ R hd=>Zq (OD.move rfl rfl) rfl
 exact fun θ R ⟨h2d,_⟩=>Opp.plain (OG.imp (OG.call [.int .i64 (-1),vx] ent54 rfl rfl rfl rfl (by exact(listTimes_w sx (Ent.drop 1 ex.app) (by omega)))) (by rintro v4 _ ⟨_,rfl,hs5,rfl⟩;exact⟨[v4],rfl,hs5,rfl⟩)) rfl
 exact fun θ R ⟨h3d,_⟩=>Zq (OG.call [((θ 3).getD 0 undef)] ent98 rfl rfl rfl rfl (by exact(formatInts_w h3d (Ent.ints (i:=0) rfl) (ngF_all64 x) (by first | omega | (have:=ngF_len x;unfold ngF at this;omega)) ((Ent.drop 2 htab.app))))) rfl
 exact fun θ R ⟨h1d,h4d,_⟩=>Zq (OD.lookupOk (k:=(lpF (List.replicate x.length 0) (-1) x)) rfl mt62 ke9keyL rfl rfl (Ent.drop 2 hrm.app)) rfl
 exact fun θ R ⟨h5d,_⟩=>Zq (OD.move rfl rfl) rfl
 exact fun θ R ⟨h6d,_⟩=>Zq (OD.extract rfl rfl rfl) rfl
 exact fun θ R ⟨h6d,_⟩=>Zq (OD.extract rfl rfl rfl) rfl
 intro θ hall
 obtain⟨_,_,_,h3a,_,_,_,_,_,_⟩:=hall
 refine G.at [] 0 (env':=[(35,.bool ((alu (lpF (List.replicate x.length 0) (-1) x) rm).isSome)),(34,.int .i64 ((alu (lpF (List.replicate x.length 0) (-1) x) rm).getD 0))]) ⟨rfl,rfl,trivial⟩ (own':=ints 3 ((θ 3).getD 0 undef) (lpF (List.replicate x.length 0) (-1) x)::box g1 64 [.int .i64 (rr),vrd,vrs,.map (some grm)]::own) rfl ?_
 have hs6:IsS ((θ 3).getD 0 undef):=h3a
 clear h3a
 generalize ((θ 3).getD 0 undef)=v7 at *
 show G _ _ _ [_,_] _ _ _ _
 refine Za rfl (Za rfl (Zn (Zt (Zs (Zr (Zm rfl (Zm rfl (Za rfl (Za rfl (Za rfl (Zn (Zt (GC.ret ?_)))))))))))))
 exact GE.body [] 2 (resN rfl (RVs.cons (rv_tmp rfl) (RVs.cons (rv_tmp rfl) (RVs.cons (rv_tmp rfl) RVs.nil))) rfl) rfl (⟨congr (congr (congrArg (fun(a0:Int) (a1:Bool) (a2:Bool)=>(.tuple #[.int .i64 (a0),.bool (a1),.bool (a2)]:Value)) ((by rw[fdP,if_neg (fun h=>h hc2),hc3] <;> rfl:((alu (lpF (List.replicate x.length 0) (-1) x) rm).getD 0:Int)=fdP rr rm x))) ((by rw[fdS,decide_eq_true hc2,hc3] <;> rfl:(false:Bool)=fdS rr rm x))) ((by rw[fdB,decide_eq_true hc2,hc3] <;> rfl:((alu (lpF (List.replicate x.length 0) (-1) x) rm).isSome:Bool)=fdB rr rm x)),rfl⟩)
theorem has_w {W:World}{own:List Asn}{rr:Int}{vrd:Value}{vrs:Value}{urs:List Value}{rs:Nat}{grm:Nat}{rm:List (List Int × Int)}{vx:Value}{x:List Int}(srd:IsS vrd)(srs:IsS vrs)(ers:Ent own fun w=>Sl w vrs rs 1 urs)(hrm:Ent own (MapIs keyL valI grm rm))(sx:IsS vx)(ex:Ent own fun w=>Ints w vx x)(hrr:rr≤4)(hx:All64 x)(hxl:x.length≤1073741824)(htab:Ent own Pow10):Spec Tryz.prog 52 [.agg #[.int .i64 (rr),vrd,vrs,.map (some grm)],vx] W own (fun v ow=>v = .bool (fdB rr rm x)∧ow=own):=by
 refine Spec.enter Tryz.f52 _ Tryz.func52 rfl (n:=16) rfl rfl ?_
 refine Zs (Zr (G.step (OG.box (cs:=[.int .i64 (rr),vrd,vrs,.map (some grm)]) rfl rfl rfl) rfl rfl rfl ?_))
 rintro _ _ ⟨g1,rfl,rfl⟩
 refine Za rfl (Zn (Zt (Zs (Zr (Zd (OD.loadAgg rfl ti64 rfl (i:=0) rfl (us:=[.int .i64 (rr),vrd,vrs,.map (some grm)]) rfl rfl) rfl ?_)))))
 refine Zm rfl (G.step (OG.call [.agg #[.int .i64 (rr),vrd,vrs,.map (some grm)],vx] ent117 rfl rfl rfl rfl (by exact(find_w srd srs (Ent.drop 1 ers) (Ent.drop 1 hrm) sx (Ent.drop 1 ex) (hrr) (hx) (hxl) ((Ent.drop 1 htab))))) rfl rfl rfl ?_)
 rintro _ _ ⟨rfl,rfl⟩
 refine Zm rfl (Zd (OD.extract rfl rfl rfl) rfl ?_)
 refine Zd (OD.extract rfl rfl rfl) rfl ?_
 refine Zd (OD.extract rfl rfl rfl) rfl ?_
 refine Za rfl (Za rfl (Za rfl (Zn (Zt (Zs (Zr (Zm rfl (Za rfl (Zn (Zt (GC.ret ?_)))))))))))
 exact GE.body [] 1 (res1 rfl rfl) rfl (⟨rfl,rfl⟩)
end Go.Proofs.YtbmnnbglipkidaaGreatDoor
