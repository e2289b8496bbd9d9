/-
  The roots of a Cartan matrix by the first text: contracts by walks.
-/
import Derived.Test.YtbmnnbglipkidaaGreatDoorWRts
import Derived.Test.YtbmnnbglipkidaaGreatDoorNewA
namespace Go.Proofs.YtbmnnbglipkidaaGreatDoor
set_option maxRecDepth 100000
set_option linter.unusedVariables false
set_option linter.unusedSimpArgs false
open Go.RowKit
set_option maxHeartbeats 4000000 in
theorem FV {W:World}{own:List Asn}{cr:Int}{vcd:Value}{cd:List Int}(scd:Ab vcd)(ecd:Ent own fun w=>Ints w vcd cd)(hcr:1≤cr∧cr≤4)(hcd:(cd.length:Int)=cr*cr)(hty:(Ax cr cd).isSome=true)(htab:Ent own Cm):Spec Tryz.prog 51 [.agg #[J (cr),vcd]] W own (fun v ow=>∃ (r2:Value) (u2:List Value) (g3:Nat),v = .agg #[J (cr),vcd,r2,.map (some g3)]∧Ab r2∧AllS u2∧u2.length=(rSt cr cd).length∧ow=lst 22 r2 u2::many (ints 3) u2 (rSt cr cd)::mapA Bc valI g3 (A7 cr cd)::own):=by
 refine Spec.enter Tryz.f51 _ Tryz.func51 rfl (n:=123) rfl rfl ?_
 refine Zs (Zr (Yt (OG.box (cs:=[J (cr),vcd]) rfl rfl rfl) ?_))
 rintro _ _ ⟨g1,rfl,rfl⟩
 refine Yt (OG.alloc rfl Df (zs:=[J (0),.slice none 0 0,.slice none 0 0,.map none]) rfl) ?_
 rintro _ _ ⟨g2,rfl,rfl⟩
 refine Zn (Zt (Zs (Zr (Zd (Qa An 1 [_,_]) rfl ?_))))
 refine Yt (OG.makeMap Bc valI rfl rfl) ?_
 rintro _ _ ⟨g3,rfl,rfl⟩
 refine Zd (OD.build (idx:=[0,2]) (xs:=[.tmp 13,.tmp 14]) (vs:=[.agg #[J (cr),vcd],.map (some g3)]) (cs:=[[J (cr),vcd],[.map (some g3)]]) (zs:=[J (0),.slice none 0 0,.slice none 0 0,.map none]) (r:=[J (cr),vcd,.slice none 0 0,.map (some g3)]) rfl Df rfl rfl rfl ⟨rfl,⟨rfl,trivial⟩⟩ rfl) rfl ?_
 refine Yt (OG.alloc rfl Df (zs:=[J (0),.slice none 0 0,.slice none 0 0,.map none]) rfl) ?_
 rintro _ _ ⟨g4,rfl,rfl⟩
 refine Yu Df [J (cr),vcd,.slice none 0 0,.map (some g3)] 0 (Ad rfl (Ad (Ab.one scd) (Ad rfl (Ad rfl rfl)))) ?_
 refine Zn (Zt (Zs (Zs (Zr (Zd (Qf Aq) rfl ?_)))))
 refine Zd (Ql Ak 3) rfl ?_
 refine Zm rfl (Zn (Zt (GC.block ?_)))
 refine GC.nilLst 22 ?_
 refine GC.many0 (ints 3) ?_
 refine Yl (ι:=Nat × List Value × Value) (fun⟨i,us,v⟩=>[(1,Pg g1 0),(2,Pg g2 0),(3,Pg g4 0),(17,J (cr)),(18,J ((i:Int)))]) (fun⟨i,us,v⟩=>many (ints 3) us ((List.range i).map (unitL cr.toNat))::lst 22 v us::box g4 64 [J (cr),vcd,v,.map (some g3)]::mapA Bc valI g3 (Ef 0 ((List.range i).map (unitL cr.toNat)))::box g2 64 [J (0),.slice none 0 0,.slice none 0 0,.map none]::box g1 27 [J (cr),vcd]::own) (fun⟨i,us,v⟩=>(i≤cr.toNat)∧(AllS us)∧(us.length=i)∧(Ab v)) (fun⟨i,us,v⟩=>cr.toNat - i) (0,[],(.slice none 0 0)) (⟨by omega,AllS.nil,rfl,Ab.nil⟩) [] 0 ?_
 rintro⟨i,us,v⟩ ⟨hi,ha,hul,hv⟩
 have hxl:((List.range i).map (unitL cr.toNat)).length=i:=by simp
 refine Zs (Zr (Zd Bb rfl ?_))
 refine Zn (Zt (Zs ?_))
 refine GC.cond rfl (fun hc5=>?_) (fun hc5=>?_)
 replace hc5:=of_decide_eq_true hc5
 refine Zk (Zt (Zs (GC.block (Zs (Zr ?_)))))
 refine Zm rfl (Za rfl (Zn (Zt (Zs (Ya [(1,_),(2,_),(3,_),(17,_),(18,_),(4,_)] ?_)))))
 refine Wp [Z0 21 (Pg g4 2),Z1 22 [(0,21)] v,Z0 23 (Pg g1 0),Z1 24 [(2,23)] (J (cr)),Z0 25 (J ((i:Int))),⟨26,[(3,24),(4,25)],[],[],[5],fun ds=>((ds.getD 0 []).getD 0 undef),fun ds=>Ab ((ds.getD 0 []).getD 0 undef),fun ds=>[ints 3 ((ds.getD 0 []).getD 0 undef) (unitL cr.toNat i)]⟩,⟨27,[(5,26)],[5],[],[5,6],fun ds=>((ds.getD 1 []).getD 0 undef),fun ds=>Ab ((ds.getD 1 []).getD 0 undef),fun ds=>[lst 22 ((ds.getD 1 []).getD 0 undef) [((ds.getD 0 []).getD 0 undef)]]⟩] (Zc (fun _ _ _=>Zq (Qf BR) rfl) (Zc (fun _ _ _=>Zq (Ql DZ 2) rfl) (Zc (fun _ _ _=>Zq (Qf Aq) rfl) (Zc (fun _ _ _=>Zq (Ql Ak 5) rfl) (Yv (Zc (fun _ _ _=>AR.plain (OG.imp (Yc [J (cr),J ((i:Int))] OB (by exact(TM (by omega) (by omega)))) (by rintro v10 _ ⟨_,rfl,hs11,rfl⟩;exact⟨[v10],rfl,hs11,rfl⟩)) rfl) (Zc (fun θ _ ⟨h5d,_⟩=>AR.plain (OG.imp (OG.buildLst (xs:=[.tmp 26]) (us:=[((θ 5).getD 0 undef)]) rfl AM rfl rfl rfl (Ad (Ab.one h5d) rfl) rfl) (by rintro v12 _ ⟨hs13,rfl⟩;exact⟨[v12],rfl,hs13,rfl⟩)) rfl) As.nil))))))) ?_
 intro θ hall
 obtain⟨_,_,_,_,_,h5a,h6a,_⟩:=hall
 refine Yb [(1,_),(2,_),(3,_),(17,_),(18,_),(4,_),(22,v),(27,((θ 6).getD 0 undef))] (ints 3 ((θ 5).getD 0 undef) (unitL cr.toNat i)::lst 22 ((θ 6).getD 0 undef) [((θ 5).getD 0 undef)]::_::_) ?_
 have hs14:Ab ((θ 5).getD 0 undef):=h5a
 clear h5a
 generalize ((θ 5).getD 0 undef)=v15 at *
 have hs16:Ab ((θ 6).getD 0 undef):=h6a
 clear h6a
 generalize ((θ 6).getD 0 undef)=v17 at *
 show G _ _ _ [_,_,_] _ _ _ _
 refine Yt (OG.appendLst 3 rfl rfl AM rfl rfl rfl (Ent.lst (i:=1) rfl) (List.all_eq_true.2 fun u hu=>by simpa using(AllS.snoc AllS.nil hs14).one u hu) (by simp[maxLen] <;> omega)) ?_
 rintro v18 _ ⟨hs19,rfl⟩
 refine Zd (Qf BR) rfl ?_
 refine G.stepD0 (OD.store rfl DZ rfl rfl (us:=[v18]) (AN (Ab.one hs19)) rfl (Ad (Ab.one hs19) rfl) (i:=4) rfl rfl) rfl rfl ?_
 refine Zn (Zt (Yq [0,1,0,0,0,0,0,0] (_::_::_::_::_::_::_::_::own) ?_))
 refine GC.manyPush (by omega) ?_
 refine GC.ownEq (own':=many (ints 3) (us++[v15]) ((List.range (i+1)).map (unitL cr.toNat))::lst 22 v17 [v15]::lst 22 v18 (us++[v15])::box g4 64 [J (cr),vcd,v18,.map (some g3)]::mapA Bc valI g3 (Ef 0 ((List.range i).map (unitL cr.toNat)))::box g2 64 [J (0),.slice none 0 0,.slice none 0 0,.map none]::box g1 27 [J (cr),vcd]::own) (by erw [FK] <;> rfl) ?_
 have hpl:(us++[v15]).length=i+1:=by rw[List.length_append,List.length_singleton,hul]
 have hpx:((List.range (i+1)).map (unitL cr.toNat)).length=i+1:=by simp
 refine Ya [(1,_),(2,_),(3,_),(17,_),(18,_),(4,_)] ?_
 refine Wp [Z0 30 (Pg g4 3),Z1 31 [(0,30)] (.map (some g3)),Z0 32 (Pg g4 2),Z1 33 [(2,32)] v18,Z0 34 (J ((i:Int))),Z1 35 [(3,33),(4,34)] (Aa v18 1 (i)),Z1 36 [(5,35)] (((us++[v15]).getD (i) undef)),Z1 37 [(6,36)] (.string (Ca (((List.range (i+1)).map (unitL cr.toNat)).getD (i) []))),Z0 38 (J ((i:Int)))] (Zc (fun _ _ _=>Zq (Qf GK) rfl) (Zc (fun _ _ _=>Zq (Ql GZ 3) rfl) (Zc (fun _ _ _=>Zq (Qf BR) rfl) (Zc (fun _ _ _=>Zq (Ql DZ 3) rfl) (Yv (Zc (fun _ _ _=>Zq (Qi AM (Ent.lst (i:=2) rfl)) rfl) (Zc (fun _ _ _=>Zq (OD.loadElem rfl AH rfl (Ent.lst (i:=2) rfl) (by omega) rfl) rfl) (Zc (fun _ _ _=>Zq (Yc [((us++[v15]).getD (i) undef)] E8 (by exact(Ba ((ha.snoc hs14).get (by omega)) (Ent.manyInts (i:=0) rfl ⟨by first | omega | (simp;omega),by first | omega | (simp;omega)⟩) (by rw[Dp];exact Pr _ _) (by first | omega | (rw[Dp,Bf];omega)) ((Ent.drop 7 htab.app))))) rfl) (Yv As.nil))))))))) ?_
 intro θ _
 refine Yb [(1,_),(2,_),(3,_),(17,_),(18,_),(31,.map (some g3)),(37,.string (Ca (((List.range (i+1)).map (unitL cr.toNat)).getD (i) []))),(38,J ((i:Int)))] (_::_) ?_
 show G _ _ _ [_] _ _ _ _
 refine G.stepD0 (OD.mapUpdate (kE:=Bc) (vE:=valI) (l:=Ef 0 ((List.range i).map (unitL cr.toNat))) (k:=(((List.range (i+1)).map (unitL cr.toNat)).getD (i) [])) (b:=((i:Int):Int)) rfl GY.ht De rfl rfl rfl (i:=4) rfl) rfl rfl ?_
 refine Zn (GE.blockN (Zt (Zr ?_)))
 refine Zd Qp rfl ?_
 refine Zm rfl (Zn (GE.ownEq (own':=many (ints 3) (us++[v15]) ((List.range (i+1)).map (unitL cr.toNat))::lst 22 v17 [v15]::lst 22 v18 (us++[v15])::box g4 64 [J (cr),vcd,v18,.map (some g3)]::mapA Bc valI g3 (Ef 0 ((List.range (i+1)).map (unitL cr.toNat)))::box g2 64 [J (0),.slice none 0 0,.slice none 0 0,.map none]::box g1 27 [J (cr),vcd]::own) (by rw[Dp,Vt (by omega)] <;> rfl) ?_))
 exact Yg (i+1,us++[v15],v18) (⟨by omega,(ha.snoc hs14),by rw[List.length_append,List.length_singleton];omega,hs19⟩) [0,1,1,1,1,1] 1
 replace hc5:=of_decide_eq_false hc5
 refine GC.exit (Zp (Zp (GE.hit (Zt (Zs (Zs (Zr ?_)))))))
 refine Za rfl (Zn (Zt (GC.block ?_)))
 refine Yl (ι:=Nat × Nat × List (List Int) × List Value × Value) (fun⟨f,k,fs,us,v⟩=>[(1,Pg g1 0),(2,Pg g2 0),(3,Pg g4 0),(5,J ((k:Int)))]) (fun⟨f,k,fs,us,v⟩=>many (ints 3) us fs::lst 22 v us::box g4 64 [J (cr),vcd,v,.map (some g3)]::mapA Bc valI g3 (Ef 0 fs)::box g2 64 [J (0),.slice none 0 0,.slice none 0 0,.map none]::box g1 27 [J (cr),vcd]::own) (fun⟨f,k,fs,us,v⟩=>(rC cr cd f fs k=some (rFd cr cd))∧(AllS us)∧(us.length=fs.length)∧(Ab v)) (fun⟨f,k,fs,us,v⟩=>f) (40,0,((List.range i).map (unitL cr.toNat)),us,v) (⟨(rtOk hty).first (by omega) hi,ha,by rw[hul];simp,hv⟩) [] 0 ?_
 rintro⟨f,k,fs,us,v⟩ ⟨hf,ha,hul,hv⟩
 have hfl:fs.length≤30:=Nat.le_trans (FM hf).len (rtOk hty).few
 refine Zs (Zs (Zr (Zm rfl (Zd (Qf BR) rfl ?_))))
 refine Zd (Ql DZ 2) rfl ?_
 refine Zd (Qn AM (Ent.lst (i:=1) rfl)) rfl ?_
 refine Zd Bb rfl ?_
 refine Zn (Zt ?_)
 refine GC.cond rfl (fun hc20=>?_) (fun hc20=>?_)
 replace hc20:=of_decide_eq_true hc20
 obtain⟨g,hgg,hst,hpre⟩:=RB hf (by omega)
 obtain⟨hxl0,hxb0⟩:=(rtOk hty).fget (FM hf) (show k<fs.length by omega)
 have hwl:=Dj cr cd (fs.getD k [])
 refine Zk (Zt (Zs (GC.block (Zs ?_))))
 refine Ya [(1,_),(2,_),(3,_),(5,_)] ?_
 refine Wp [Z0 47 (.agg #[J (cr),vcd]),Z0 48 (Pg g4 2),Z1 49 [(1,48)] v,Z0 50 (J ((k:Int))),Z1 51 [(2,49),(3,50)] (Aa v 1 (k)),Z1 52 [(4,51)] ((us.getD (k) undef)),⟨53,[(0,47),(5,52)],[],[],[6],fun ds=>((ds.getD 0 []).getD 0 undef),fun ds=>Ab ((ds.getD 0 []).getD 0 undef),fun ds=>[ints 3 ((ds.getD 0 []).getD 0 undef) (wtF cr cd (fs.getD (k) []))]⟩] (Zc (fun _ _ _=>Zq (Qa An 5 [_,_]) rfl) (Zc (fun _ _ _=>Zq (Qf BR) rfl) (Zc (fun _ _ _=>Zq (Ql DZ 2) rfl) (Yv (Zc (fun _ _ _=>Zq (Qi AM (Ent.lst (i:=1) rfl)) rfl) (Zc (fun _ _ _=>Zq (OD.loadElem rfl AH rfl (Ent.lst (i:=1) rfl) (by omega) rfl) rfl) (Zc (fun _ _ _=>AR.plain (OG.imp (Yc [.agg #[J (cr),vcd],(us.getD (k) undef)] Re (by exact(Eo scd (Ent.drop 6 ecd.app) (ha.get (by omega)) (Ent.manyInts (i:=0) rfl ⟨by first | omega | (simp;omega),by first | omega | (simp;omega)⟩) (hcr) (hcd) (by omega)))) (by rintro v21 _ ⟨_,rfl,hs22,rfl⟩;exact⟨[v21],rfl,hs22,rfl⟩)) rfl) As.nil))))))) ?_
 intro θ hall
 obtain⟨_,_,_,_,_,_,h6a,_⟩:=hall
 refine Yb [(1,_),(2,_),(3,_),(5,_),(53,((θ 6).getD 0 undef))] (ints 3 ((θ 6).getD 0 undef) (wtF cr cd (fs.getD (k) []))::_::_) ?_
 have hs23:Ab ((θ 6).getD 0 undef):=h6a
 clear h6a
 generalize ((θ 6).getD 0 undef)=v24 at *
 show G _ _ _ [_] _ _ _ _
 refine Za rfl (Zn (Zt (Zs (Zr (Zd (Qf Aq) rfl ?_)))))
 refine Zd (Ql Ak 6) rfl ?_
 refine Zm rfl (Zn (Zt (GC.block ?_)))
 refine Yl (ι:=Nat × List (List Int) × List Value × Value) (fun⟨i,gs,ut,w⟩=>[(1,Pg g1 0),(2,Pg g2 0),(3,Pg g4 0),(5,J ((k:Int))),(6,v24),(55,J (cr)),(56,J ((i:Int)))]) (fun⟨i,gs,ut,w⟩=>ints 3 v24 (wtF cr cd (fs.getD (k) []))::many (ints 3) ut gs::lst 22 w ut::box g4 64 [J (cr),vcd,w,.map (some g3)]::mapA Bc valI g3 (Ef 0 gs)::box g2 64 [J (0),.slice none 0 0,.slice none 0 0,.map none]::box g1 27 [J (cr),vcd]::own) (fun⟨i,gs,ut,w⟩=>(i≤cr.toNat)∧(gs=(List.range i).foldl (DI cr cd (fs.getD k [])) fs)∧(AllS ut)∧(ut.length=gs.length)∧(Ab w)) (fun⟨i,gs,ut,w⟩=>cr.toNat - i) (0,fs,us,v) (⟨by omega,rfl,ha,hul,hv⟩) [] 0 ?_
 rintro⟨i,gs,ut,w⟩ ⟨hi,hg,hb,hut,hw⟩
 obtain⟨hkg,hgk,hgl,hxl,hxb,hal⟩:=(rtOk hty).inner hpre (by omega) hi hg
 refine Zs (Zr (Zd Bb rfl ?_))
 refine Zn (Zt (Zs ?_))
 refine GC.cond rfl (fun hc25=>?_) (fun hc25=>?_)
 replace hc25:=of_decide_eq_true hc25
 obtain⟨hw12,hlp,hyl,hy64⟩:=(rtOk hty).nxt hxl0 hxb0 (show i<cr.toNat by omega)
 refine Zk (Zt (Zs (GC.block (Zs (Zr ?_)))))
 refine Zm rfl (Za rfl (Zn (Zt (Zs (Ya [(1,_),(2,_),(3,_),(5,_),(6,_),(55,_),(56,_),(7,_)] ?_)))))
 refine Wp [Z0 59 (Pg g4 2),Z1 60 [(0,59)] w,Z0 61 (J ((k:Int))),Z1 62 [(1,60),(2,61)] (Aa w 1 (k)),Z1 63 [(3,62)] ((ut.getD (k) undef)),Z0 64 v24,Z0 65 (J ((i:Int))),Z1 66 [(5,64),(6,65)] (Aa v24 1 (i)),Z1 67 [(7,66)] (J ((wtF cr cd (fs.getD (k) [])).getD (i) 0)),Z1 68 [(8,67)] (J (0 - (wtF cr cd (fs.getD (k) [])).getD (i) 0)),Z0 69 (Pg g1 0),Z1 70 [(10,69)] (J (cr)),Z0 71 (J ((i:Int))),⟨72,[(11,70),(12,71)],[],[],[13],fun ds=>((ds.getD 0 []).getD 0 undef),fun ds=>Ab ((ds.getD 0 []).getD 0 undef),fun ds=>[ints 3 ((ds.getD 0 []).getD 0 undef) (unitL cr.toNat i)]⟩,⟨73,[(4,63),(9,68),(13,72)],[13],[],[13,14],fun ds=>((ds.getD 1 []).getD 0 undef),fun ds=>Ab ((ds.getD 1 []).getD 0 undef),fun ds=>[ints 3 ((ds.getD 1 []).getD 0 undef) (Af (gs.getD (k) []) (0 - (wtF cr cd (fs.getD (k) [])).getD (i) 0) (unitL cr.toNat i))]⟩] (Zc (fun _ _ _=>Zq (Qf BR) rfl) (Zc (fun _ _ _=>Zq (Ql DZ 3) rfl) (Yv (Zc (fun _ _ _=>Zq (Qi AM (Ent.lst (i:=2) rfl)) rfl) (Zc (fun _ _ _=>Zq (OD.loadElem rfl AH rfl (Ent.lst (i:=2) rfl) (by omega) rfl) rfl) (Yv (Yv (Zc (fun _ _ _=>Zq (Qi Ac (Ei 0)) rfl) (Zc (fun _ _ _=>Zq (Qv Ak (Ei 0)) rfl) (Zc (fun _ _ _=>Zq (OD.negI rfl rfl (by omega)) rfl) (Zc (fun _ _ _=>Zq (Qf Aq) rfl) (Zc (fun _ _ _=>Zq (Ql Ak 6) rfl) (Yv (Zc (fun _ _ _=>AR.plain (OG.imp (Yc [J (cr),J ((i:Int))] OB (by exact(TM (by omega) (by omega)))) (by rintro v26 _ ⟨_,rfl,hs27,rfl⟩;exact⟨[v26],rfl,hs27,rfl⟩)) rfl) (Zc (fun θ _ ⟨_,_,h13d,_⟩=>AR.plain (OG.imp (Yc [(ut.getD (k) undef),J (0 - (wtF cr cd (fs.getD (k) [])).getD (i) 0),((θ 13).getD 0 undef)] Gx (by exact(BQ (hb.get (by omega)) (Ent.manyInts (i:=2) rfl ⟨by first | omega | (simp;omega),by first | omega | (simp;omega)⟩) h13d (Ei 0) (by omega) (by rw[Bf];omega)))) (by rintro v28 _ ⟨_,rfl,hs29,rfl⟩;exact⟨[v28],rfl,hs29,rfl⟩)) rfl) As.nil))))))))))))))) ?_
 intro θ hall
 obtain⟨_,_,_,_,_,_,_,_,_,_,_,_,_,h13a,h14a,_⟩:=hall
 refine Yb [(1,_),(2,_),(3,_),(5,_),(6,_),(55,_),(56,_),(7,_),(73,((θ 14).getD 0 undef))] (ints 3 ((θ 13).getD 0 undef) (unitL cr.toNat i)::ints 3 ((θ 14).getD 0 undef) (Af (gs.getD (k) []) (0 - (wtF cr cd (fs.getD (k) [])).getD (i) 0) (unitL cr.toNat i))::_::_) ?_
 have hs30:Ab ((θ 13).getD 0 undef):=h13a
 clear h13a
 generalize ((θ 13).getD 0 undef)=v31 at *
 have hs32:Ab ((θ 14).getD 0 undef):=h14a
 clear h14a
 generalize ((θ 14).getD 0 undef)=v33 at *
 show G _ _ _ [_] _ _ _ _
 refine Za rfl (Zn (Zt (Zs (GC.ownEq (own':=ints 3 v31 (unitL cr.toNat i)::ints 3 v33 (AK cr cd (fs.getD k []) i)::ints 3 v24 (wtF cr cd (fs.getD (k) []))::many (ints 3) ut gs::lst 22 w ut::box g4 64 [J (cr),vcd,w,.map (some g3)]::mapA Bc valI g3 (Ef 0 gs)::box g2 64 [J (0),.slice none 0 0,.slice none 0 0,.map none]::box g1 27 [J (cr),vcd]::own) (by rw[hgk,hlp] <;> rfl) ?_))))
 refine Ya [(1,_),(2,_),(3,_),(5,_),(6,_),(55,_),(56,_),(7,_),(8,_)] ?_
 refine GC.late (σ:=[0,1,2,3,4,5,7,6,8,9]) (L:=[7]) (its:=[Z0 75 (Pg g4 3),
     Z1 76 [(0,75)] (.map (some g3)),
     Z0 77 v33,
     Z1 78 [(2,77)] (.string (Ca (AK cr cd (fs.getD k []) i))),
     Z1 79 [(1,76),(3,78)] (.tuple #[J ((BP (AK cr cd (fs.getD k []) i) (Ef 0 gs)).getD 0),.bool ((BP (AK cr cd (fs.getD k []) i) (Ef 0 gs)).isSome)]),
     Z1 74 [(4,79)] (.tuple #[J ((BP (AK cr cd (fs.getD k []) i) (Ef 0 gs)).getD 0),.bool ((BP (AK cr cd (fs.getD k []) i) (Ef 0 gs)).isSome)]),
     Z1 81 [(5,74)] (.bool ((BP (AK cr cd (fs.getD k []) i) (Ef 0 gs)).isSome)),
     Z1 80 [(5,74)] (J ((BP (AK cr cd (fs.getD k []) i) (Ef 0 gs)).getD 0))]) (by kernel_rfl) (by repeat (first | refine PanQ.then_ ?_ | refine PanQ.block ?_ | exact PanQ.body)) (by kernel_rfl) ⟨⟨_,rfl,.inl rfl⟩,trivial⟩ (by kernel_rfl) (Zc ?_ (Zc ?_ (Zc ?_ (Zc ?_ (Zc ?_ (Zc ?_ (Zc ?_ (Zc ?_ As.nil)))))))) ?_
 exact fun θ R hd=>Zq (Qf GK) rfl
 exact fun θ R ⟨h0d,_⟩=>Zq (Ql GZ 5) rfl
 exact fun θ R hd=>Zq (OD.move rfl rfl) rfl
 exact fun θ R ⟨h2d,_⟩=>Zq (Yc [v33] E8 (by exact(Ba hs32 (Ei 1) (hy64) (by first | omega | (rw[Dp,Bf];omega)) ((Ent.drop 9 htab.app))))) rfl
 exact fun θ R ⟨h1d,h3d,_⟩=>Zq (OD.lookupOk (k:=(AK cr cd (fs.getD k []) i)) rfl GY De rfl rfl (Ent.map (kE:=Bc) (vE:=valI) (l:=Ef 0 gs) (i:=6) rfl)) rfl
 exact fun θ R ⟨h4d,_⟩=>Zq (OD.move rfl rfl) rfl
 exact fun θ R ⟨h5d,_⟩=>Zq (OD.extract rfl rfl rfl) rfl
 exact fun θ R ⟨h5d,_⟩=>Zq (OD.extract rfl rfl rfl) rfl
 intro θ hall
 obtain⟨_,_,_,_,_,_,_,_,_⟩:=hall
 refine Yb [(1,_),(2,_),(3,_),(5,_),(6,_),(55,_),(56,_),(7,_),(8,_),(81,.bool ((BP (AK cr cd (fs.getD k []) i) (Ef 0 gs)).isSome)),(80,J ((BP (AK cr cd (fs.getD k []) i) (Ef 0 gs)).getD 0))] (_::_) ?_
 show G _ _ _ [_,_] _ _ _ _
 refine Za rfl (Za rfl (Zn (Zt (Zs (Zr (Zm rfl (Zd (OD.not rfl rfl) rfl ?_)))))))
 refine Zm rfl ?_
 rcases Bool.eq_false_or_eq_true (!((BP (AK cr cd (fs.getD k []) i) (Ef 0 gs)).isSome)) with hg34 | hg34
 have hg34e:=hg34
 rw[hg34e]
 replace hg34:=Ai hg34
 refine Yd (OD.move rfl rfl) ?_
 refine Yd (OD.move rfl rfl) ?_
 refine Yd (Qi Ac (Ei 1)) ?_
 refine Yd (Qv Ak (Ei 1)) ?_
 refine Yd (OD.geq rfl rfl rfl) ?_
 refine Zd (OD.pickT rfl rfl rfl) rfl ?_
 refine Zn (Zt ?_)
 refine GC.cond rfl (fun hc35=>?_) (fun hc35=>?_)
 replace hc35:=of_decide_eq_true hc35
 refine Zs (Ya [(1,_),(2,_),(3,_),(5,_),(6,_),(55,_),(56,_),(8,_)] ?_)
 refine Wp [Z0 91 (Pg g4 3),Z1 92 [(0,91)] (.map (some g3)),Z0 93 v33,Z1 94 [(2,93)] (.string (Ca (AK cr cd (fs.getD k []) i))),Z0 95 (Pg g4 2),Z1 96 [(4,95)] w,Z1 97 [(5,96)] (J ((ut.length:Nat)))] (Zc (fun _ _ _=>Zq (Qf GK) rfl) (Zc (fun _ _ _=>Zq (Ql GZ 5) rfl) (Yv (Zc (fun _ _ _=>Zq (Yc [v33] E8 (by exact(Ba hs32 (Ei 1) (hy64) (by first | omega | (rw[Dp,Bf];omega)) ((Ent.drop 9 htab.app))))) rfl) (Zc (fun _ _ _=>Zq (Qf BR) rfl) (Zc (fun _ _ _=>Zq (Ql DZ 5) rfl) (Zc (fun _ _ _=>Zq (Qn AM (Ent.lst (i:=4) rfl)) rfl) As.nil))))))) ?_
 intro θ _
 refine Yb [(1,_),(2,_),(3,_),(5,_),(6,_),(55,_),(56,_),(8,_),(92,.map (some g3)),(94,.string (Ca (AK cr cd (fs.getD k []) i))),(97,J ((ut.length:Nat)))] (_::_) ?_
 show G _ _ _ [_] _ _ _ _
 refine G.stepD0 (OD.mapUpdate (kE:=Bc) (vE:=valI) (l:=Ef 0 gs) (k:=(AK cr cd (fs.getD k []) i)) (b:=((ut.length:Nat):Int)) rfl GY.ht De rfl rfl rfl (i:=6) rfl) rfl rfl ?_
 refine Zn (Zt (Zr (Zd (Qf BR) rfl ?_)))
 refine Zd (Ql DZ 5) rfl ?_
 refine Zm rfl (Yt (OG.buildLst (xs:=[.tmp 100]) (us:=[v33]) rfl AM rfl rfl rfl (Ad (Ab.one hs32) rfl) rfl) ?_)
 rintro v36 _ ⟨hs37,rfl⟩
 refine Yt (OG.appendLst 5 rfl rfl AM rfl rfl rfl (Ent.lst (i:=0) rfl) (List.all_eq_true.2 fun u hu=>by simpa using(AllS.snoc AllS.nil hs32).one u hu) (by simp[maxLen] <;> omega)) ?_
 rintro v38 _ ⟨hs39,rfl⟩
 refine Zd (Qf BR) rfl ?_
 refine G.stepD0 (OD.store rfl DZ rfl rfl (us:=[v38]) (AN (Ab.one hs39)) rfl (Ad (Ab.one hs39) rfl) (i:=6) rfl rfl) rfl rfl ?_
 refine Zn (GE.blockN (Zt (Zr ?_)))
 refine Zd Qp rfl ?_
 refine Zm rfl (Zn (Yr [2,3,0,0,0,0,0,0,0,0] (_::_::_::_::_::_::_::_::_::_::own) ?_))
 refine GE.manyPush (by omega) ?_
 refine GE.ownEq (own':=many (ints 3) (ut++[v33]) (gs++[AK cr cd (fs.getD k []) i])::lst 22 v36 [v33]::ints 3 v31 (unitL cr.toNat i)::ints 3 v24 (wtF cr cd (fs.getD (k) []))::lst 22 v38 (ut++[v33])::box g4 64 [J (cr),vcd,v38,.map (some g3)]::mapA Bc valI g3 (Ef 0 (gs++[AK cr cd (fs.getD k []) i]))::box g2 64 [J (0),.slice none 0 0,.slice none 0 0,.map none]::box g1 27 [J (cr),vcd]::own) (by rw[YC hg34 hut] <;> rfl) ?_
 exact Yg (i+1,gs++[AK cr cd (fs.getD k []) i],ut++[v33],v38) (⟨by omega,Ar hg (rOne_k3 (fun j=>(hxb0 j).1) (by omega) hg34 hc35),(hb.snoc hs32),by rw[List.length_append,List.length_append];simp;omega,hs39⟩) [3,0,2,2,2,2,2] 2
 replace hc35:=of_decide_eq_false hc35
 refine Zk (GE.blockN (Zt (Zr ?_)))
 refine Zd Qp rfl ?_
 exact Zm rfl (Zn (Yg (i+1,gs,ut,w) (⟨by omega,Ar hg (rOne_k2 (fun j=>(hxb0 j).1) (by omega) hc35),hb,hut,hw⟩) [2,2,2,2,2,2,2] 2))
 have hg34e:=hg34
 rw[hg34e]
 replace hg34:=Am hg34
 iterate 5 refine Yk ?_
 refine Zd (OD.pickF rfl rfl rfl) rfl ?_
 refine Zn (Zt (GC.condF rfl (Zk (GE.blockN (Zt (Zr ?_))))))
 refine Zd Qp rfl ?_
 exact Zm rfl (Zn (Yg (i+1,gs,ut,w) (⟨by omega,Ar hg (rOne_k1 hg34),hb,hut,hw⟩) [2,2,2,2,2,2,2] 2))
 replace hc25:=of_decide_eq_false hc25
 refine GC.exit (Zp (Zp (GE.hit (GE.blockN (Zt (Zr ?_))))))
 refine Zm rfl (Zd Qp rfl ?_)
 exact Za rfl (Zn (Yg (g,k+1,gs,ut,w) (⟨by rw[hg,show i=cr.toNat by omega];exact hst,hb,hut,hw⟩) [1,1,1,1,1,1] 1))
 replace hc20:=of_decide_eq_false hc20
 have hfe:=VD hf (by omega)
 subst hfe
 have hps:=(rtOk hty).pos
 have hlo:=(rtOk hty).lo
 have hfw:=(rtOk hty).few
 refine GC.exit (Zp (Zp (GE.hit (Zt (Zs (Zr ?_))))))
 refine Zd (Qf BR) rfl ?_
 refine Zd (Ql DZ 2) rfl ?_
 refine Yp [1,0,0,0,0,0] (_::_::_::_::_::_::own) ?_
 refine Yt (Yc [v,.func (.func 113) #[] #[]] b4 (by exact(bQ NJ P0 cW hv ha hul (by omega) (by omega) (fun x hx=>by have:=(rtOk hty).len x hx;omega)))) ?_
 rintro _ _ ⟨ws,xs,rfl,haw,hlw,hpw,hsw,rfl⟩
 obtain rfl:=(rtOk hty).sorted hpw (hsw.imp fun h=>decide_eq_false h)
 have hsn:=(rtOk hty).slen
 skip
 refine Zn (Zt (Zs (Zs (Zr (Zd (Qf BR) rfl ?_)))))
 refine Zd (Ql DZ 2) rfl ?_
 refine Zd (Qn AM (Ent.lst (i:=0) rfl)) rfl ?_
 refine Zm rfl (Zn (Zt (GC.block ?_)))
 refine Yl (ι:=Nat) (fun p=>[(2,Pg g2 0),(3,Pg g4 0),(109,v),(110,J ((ws.length:Nat))),(111,J ((p:Int)))]) (fun p=>lst 22 v ws::many (ints 3) ws (rSt cr cd)::box g4 64 [J (cr),vcd,v,.map (some g3)]::mapA Bc valI g3 (Xg (rSt cr cd) p (Ef 0 (rFd cr cd)))::box g2 64 [J (0),.slice none 0 0,.slice none 0 0,.map none]::box g1 27 [J (cr),vcd]::own) (fun p=>(p≤(rSt cr cd).length)) (fun p=>(rSt cr cd).length - p) 0 (by omega) [] 0 ?_
 rintro p hp
 refine Zs (Zr (Zd Bb rfl ?_))
 refine Zn (Zt (Zs ?_))
 refine GC.cond rfl (fun hc40=>?_) (fun hc40=>?_)
 replace hc40:=of_decide_eq_true hc40
 obtain⟨hsl,hsb⟩:=(rtOk hty).sget (show p<(rSt cr cd).length by omega)
 have hs64:All64 ((rSt cr cd).getD p []):=Ko fun j _=>by have:=hsb j;omega
 refine Zk (Zt (Zs (GC.block (Zs (Zr ?_)))))
 refine Zm rfl (Zd (Qi AM (Ent.lst (i:=0) rfl)) rfl ?_)
 refine Zd (OD.loadElem rfl AH rfl (Ent.lst (i:=0) rfl) (by omega) rfl) rfl ?_
 refine Za rfl (Za rfl (Zn (Zt (Ya [(2,_),(3,_),(109,_),(110,_),(111,_),(11,_),(12,_)] ?_))))
 refine Wp [Z0 116 (Pg g4 3),Z1 117 [(0,116)] (.map (some g3)),Z0 118 ((ws.getD (p) undef)),Z1 119 [(2,118)] (.string (Ca ((rSt cr cd).getD (p) []))),Z0 120 (J ((p:Int)))] (Zc (fun _ _ _=>Zq (Qf GK) rfl) (Zc (fun _ _ _=>Zq (Ql GZ 2) rfl) (Yv (Zc (fun _ _ _=>Zq (Yc [(ws.getD (p) undef)] E8 (by exact(Ba (haw.get (by omega)) (Ent.manyInts (i:=1) rfl ⟨by first | omega | (simp;omega),by first | omega | (simp;omega)⟩) (hs64) (by first | omega | (rw[Dp,Bf];omega)) ((Ent.drop 6 htab.app))))) rfl) (Yv As.nil))))) ?_
 intro θ _
 refine Yb [(2,_),(3,_),(109,_),(110,_),(111,_),(117,.map (some g3)),(119,.string (Ca ((rSt cr cd).getD (p) []))),(120,J ((p:Int)))] (_::_) ?_
 show G _ _ _ [_] _ _ _ _
 refine G.stepD0 (OD.mapUpdate (kE:=Bc) (vE:=valI) (l:=Xg (rSt cr cd) p (Ef 0 (rFd cr cd))) (k:=((rSt cr cd).getD (p) [])) (b:=((p:Int):Int)) rfl GY.ht De rfl rfl rfl (i:=3) rfl) rfl rfl ?_
 refine Zn (GE.blockN (Zt (Zr ?_)))
 refine Zd Qp rfl ?_
 refine Zm rfl (Zn (GE.ownEq (own':=lst 22 v ws::many (ints 3) ws (rSt cr cd)::box g4 64 [J (cr),vcd,v,.map (some g3)]::mapA Bc valI g3 (Xg (rSt cr cd) (p+1) (Ef 0 (rFd cr cd)))::box g2 64 [J (0),.slice none 0 0,.slice none 0 0,.map none]::box g1 27 [J (cr),vcd]::own) (by rw[N7] <;> rfl) ?_))
 exact Yg (p+1) (by omega) [] 0
 replace hc40:=of_decide_eq_false hc40
 refine GC.exit (Zp (Zp (GE.hit (Zt (Zs (Zr ?_))))))
 refine Zd (Qa Df 2 [_,_,_,_]) rfl ?_
 refine Yu Df [J (cr),vcd,v,.map (some g3)] 4 (Ad rfl (Ad (Ab.one scd) (Ad (Ab.one hv) (Ad rfl rfl)))) ?_
 refine Zn (Zt (GC.ret ?_))
 exact GE.body [0,0,1] 3 (AZ rfl (RVs.cons (Ag Df rfl (i:=4) rfl rfl) RVs.nil) rfl) rfl (⟨v,ws,g3,rfl,hv,haw,(hlw),dI (fun(l0:List (List Int)) (l1:List (List Int × Int))=>lst 22 v ws::many (ints 3) ws l0::mapA Bc valI g3 l1::own) (rfl) ((by rw[show p=(rSt cr cd).length by omega];rfl:Xg (rSt cr cd) p (Ef 0 (rFd cr cd))=A7 cr cd))⟩)
theorem P2 {W:World}{own:List Asn}{rr:Int}{vrd:Value}{vrs:Value}{urs:List Value}{rs:Nat}{grm:Nat}{rm:List (List Int × Int)}{vx:Value}{x:List Int}(srd:Ab vrd)(srs:Ab vrs)(ers:Ent own fun w=>Sl w vrs rs 1 urs)(hrm:Ent own (BO Bc valI grm rm))(sx:Ab vx)(ex:Ent own fun w=>Ints w vx x)(hrr:rr≤4)(hx:All64 x)(hxl:x.length≤1073741824)(htab:Ent own Cm):Spec Tryz.prog 117 [.agg #[J (rr),vrd,vrs,.map (some grm)],vx] W own (fun v ow=>v = .tuple #[J (fdP rr rm x),.bool (SY rr rm x),.bool (EL rr rm x)]∧ow=own):=by
 refine Spec.enter Tryz.f117 _ Tryz.func117 rfl (n:=38) rfl rfl ?_
 refine Zs (Zr (Yt (OG.box (cs:=[J (rr),vrd,vrs,.map (some grm)]) rfl rfl rfl) ?_))
 rintro _ _ ⟨g1,rfl,rfl⟩
 refine Za rfl (Za rfl (Za rfl (Zn (Zt (Zs (Zs (Zr (Zm rfl (Zd (Qn Ac (Ent.drop 1 ex)) rfl ?_)))))))))
 refine Zd (Qf MP) rfl ?_
 refine Zd (Qf Aq) rfl ?_
 refine Zd (Ql Ak 0) rfl ?_
 refine Zd EK rfl ?_
 refine Zn (Zt ?_)
 refine GC.cond rfl (fun hc2=>?_) (fun hc2=>?_)
 replace hc2:=AA hc2
 refine Zs (Zr (Za rfl (Za rfl (Za rfl (Zn (Zt (GC.ret (GE.passR ?_))))))))
 exact GE.body [] 1 (AZ rfl (RVs.cons (AD rfl) (RVs.cons (AD rfl) (RVs.cons (AD rfl) RVs.nil))) rfl) rfl (⟨congr (congr (congrArg (fun a0 a1 a2=>(.tuple #[J (a0),.bool (a1),.bool (a2)]:Value)) ((by rw[fdP,if_pos hc2]:(0:Int)=fdP rr rm x))) ((by rw[SY,decide_eq_false hc2] <;> rfl:(false:Bool)=SY rr rm x))) ((by rw[EL,decide_eq_false hc2] <;> rfl:(false:Bool)=EL rr rm x)),rfl⟩)
 replace hc2:=Al hc2
 refine Zk (Zt (Zs (Zs (Ya [(1,_),(2,_)] ?_))))
 refine GC.late (σ:=[0,1,2,3,4,5,7,6,8,9]) (L:=[7]) (its:=[Z0 18 (Pg g1 3),
     Z1 19 [(0,18)] (.map (some grm)),
     Z0 20 vx,
     Z1 21 [(2,20)] (.string (Ca x)),
     Z1 22 [(1,19),(3,21)] (.tuple #[J ((BP x rm).getD 0),.bool ((BP x rm).isSome)]),
     Z1 17 [(4,22)] (.tuple #[J ((BP x rm).getD 0),.bool ((BP x rm).isSome)]),
     Z1 24 [(5,17)] (.bool ((BP x rm).isSome)),
     Z1 23 [(5,17)] (J ((BP x rm).getD 0))]) (by kernel_rfl) (by repeat (first | refine PanQ.then_ ?_ | refine PanQ.block ?_ | exact PanQ.body)) (by kernel_rfl) ⟨⟨_,rfl,.inl rfl⟩,trivial⟩ (by kernel_rfl) (Zc ?_ (Zc ?_ (Zc ?_ (Zc ?_ (Zc ?_ (Zc ?_ (Zc ?_ (Zc ?_ As.nil)))))))) ?_
 exact fun θ R hd=>Zq (Qf GK) rfl
 exact fun θ R ⟨h0d,_⟩=>Zq (Ql GZ 0) rfl
 exact fun θ R hd=>Zq (OD.move rfl rfl) rfl
 exact fun θ R ⟨h2d,_⟩=>Zq (Yc [vx] E8 (by exact(Ba sx (Ent.drop 1 ex.app) (hx) (by first | omega | (have:=DR x;unfold Fe at this;omega)) ((Ent.drop 1 htab.app))))) rfl
 exact fun θ R ⟨h1d,h3d,_⟩=>Zq (OD.lookupOk (k:=x) rfl GY De rfl rfl (Ent.drop 1 hrm.app)) rfl
 exact fun θ R ⟨h4d,_⟩=>Zq (OD.move rfl rfl) rfl
 exact fun θ R ⟨h5d,_⟩=>Zq (OD.extract rfl rfl rfl) rfl
 exact fun θ R ⟨h5d,_⟩=>Zq (OD.extract rfl rfl rfl) rfl
 intro θ hall
 obtain⟨_,_,_,_,_,_,_,_,_⟩:=hall
 refine Yb [(1,_),(2,_),(24,.bool ((BP x rm).isSome)),(23,J ((BP x rm).getD 0))] (_::_) ?_
 show G _ _ _ [_,_] _ _ _ _
 refine Za rfl (Za rfl (Zn (Zt (Zs (Zr (Zm rfl (Zn (Zt ?_))))))))
 refine GC.cond rfl (fun hc3=>?_) (fun hc3=>?_)
 refine Zs (Zr (Zm rfl (Za rfl (Za rfl (Za rfl (Zn (Zt (GC.ret (GE.passR ?_)))))))))
 exact GE.body [] 1 (AZ rfl (RVs.cons (AD rfl) (RVs.cons (AD rfl) (RVs.cons (AD rfl) RVs.nil))) rfl) rfl (⟨congr (congr (congrArg (fun a0 a1 a2=>(.tuple #[J (a0),.bool (a1),.bool (a2)]:Value)) ((by rw[fdP,if_neg (fun h=>h hc2),if_pos hc3] <;> rfl:((BP x rm).getD 0:Int)=fdP rr rm x))) ((by rw[SY,decide_eq_true hc2,hc3] <;> rfl:(true:Bool)=SY rr rm x))) ((by rw[EL,decide_eq_true hc2,hc3] <;> rfl:(true:Bool)=EL rr rm x)),rfl⟩)
 refine Zk (Zt (Zs (Ya [(1,_),(2,_)] ?_)))
 refine GC.late (σ:=[0,1,2,3,4,5,6,8,7,9,10]) (L:=[8]) (its:=[Z0 28 (Pg g1 3),
     Z1 29 [(0,28)] (.map (some grm)),
     Z0 30 vx,
     ⟨31,[(2,30)],[],[],[3],fun ds=>((ds.getD 0 []).getD 0 undef),fun ds=>Ab ((ds.getD 0 []).getD 0 undef),fun ds=>[ints 3 ((ds.getD 0 []).getD 0 undef) (Af (List.replicate x.length 0) (-1) x)]⟩,
     ⟨32,[(3,31)],[3],[],[3],fun _ => .string (Ca (Af (List.replicate x.length 0) (-1) x)),fun _=>True,fun _=>[]⟩,
     ⟨33,[(1,29),(4,32)],[3],[],[3],fun _ => .tuple #[J ((BP (Af (List.replicate x.length 0) (-1) x) rm).getD 0),.bool ((BP (Af (List.replicate x.length 0) (-1) x) rm).isSome)],fun _=>True,fun _=>[]⟩,
     ⟨27,[(5,33)],[3],[],[3],fun _ => .tuple #[J ((BP (Af (List.replicate x.length 0) (-1) x) rm).getD 0),.bool ((BP (Af (List.replicate x.length 0) (-1) x) rm).isSome)],fun _=>True,fun _=>[]⟩,
     ⟨35,[(6,27)],[3],[],[3],fun _ => .bool ((BP (Af (List.replicate x.length 0) (-1) x) rm).isSome),fun _=>True,fun _=>[]⟩,
     ⟨34,[(6,27)],[3],[],[3],fun _=>J ((BP (Af (List.replicate x.length 0) (-1) x) rm).getD 0),fun _=>True,fun _=>[]⟩]) (by kernel_rfl) (by repeat (first | refine PanQ.then_ ?_ | refine PanQ.block ?_ | exact PanQ.body)) (by kernel_rfl) ⟨⟨_,rfl,.inl rfl⟩,trivial⟩ (by kernel_rfl) (Zc ?_ (Zc ?_ (Zc ?_ (Zc ?_ (Zc ?_ (Zc ?_ (Zc ?_ (Zc ?_ (Zc ?_ As.nil))))))))) ?_
 exact fun θ R hd=>Zq (Qf GK) rfl
 exact fun θ R ⟨h0d,_⟩=>Zq (Ql GZ 0) rfl
 exact fun θ R hd=>Zq (OD.move rfl rfl) rfl
 exact fun θ R ⟨h2d,_⟩=>AR.plain (OG.imp (Yc [J (-1),vx] FF (by exact(Bs sx (Ent.drop 1 ex.app) (by omega)))) (by rintro v4 _ ⟨_,rfl,hs5,rfl⟩;exact⟨[v4],rfl,hs5,rfl⟩)) rfl
 exact fun θ R ⟨h3d,_⟩=>Zq (Yc [((θ 3).getD 0 undef)] E8 (by exact(Ba h3d (Ei 0) (LQ x) (by first | omega | (have:=DR x;unfold Fe at this;omega)) ((Ent.drop 2 htab.app))))) rfl
 exact fun θ R ⟨h1d,h4d,_⟩=>Zq (OD.lookupOk (k:=(Af (List.replicate x.length 0) (-1) x)) rfl GY De rfl rfl (Ent.drop 2 hrm.app)) rfl
 exact fun θ R ⟨h5d,_⟩=>Zq (OD.move rfl rfl) rfl
 exact fun θ R ⟨h6d,_⟩=>Zq (OD.extract rfl rfl rfl) rfl
 exact fun θ R ⟨h6d,_⟩=>Zq (OD.extract rfl rfl rfl) rfl
 intro θ hall
 obtain⟨_,_,_,h3a,_,_,_,_,_,_⟩:=hall
 refine Yb [(35,.bool ((BP (Af (List.replicate x.length 0) (-1) x) rm).isSome)),(34,J ((BP (Af (List.replicate x.length 0) (-1) x) rm).getD 0))] (ints 3 ((θ 3).getD 0 undef) (Af (List.replicate x.length 0) (-1) x)::_::_) ?_
 have hs6:Ab ((θ 3).getD 0 undef):=h3a
 clear h3a
 generalize ((θ 3).getD 0 undef)=v7 at *
 show G _ _ _ [_,_] _ _ _ _
 refine Za rfl (Za rfl (Zn (Zt (Zs (Zr (Zm rfl (Zm rfl (Za rfl (Za rfl (Za rfl (Zn (Zt (GC.ret ?_)))))))))))))
 exact GE.body [] 2 (AZ rfl (RVs.cons (AD rfl) (RVs.cons (AD rfl) (RVs.cons (AD rfl) RVs.nil))) rfl) rfl (⟨congr (congr (congrArg (fun a0 a1 a2=>(.tuple #[J (a0),.bool (a1),.bool (a2)]:Value)) ((by rw[fdP,if_neg (fun h=>h hc2),hc3] <;> rfl:((BP (Af (List.replicate x.length 0) (-1) x) rm).getD 0:Int)=fdP rr rm x))) ((by rw[SY,decide_eq_true hc2,hc3] <;> rfl:(false:Bool)=SY rr rm x))) ((by rw[EL,decide_eq_true hc2,hc3] <;> rfl:((BP (Af (List.replicate x.length 0) (-1) x) rm).isSome:Bool)=EL rr rm x)),rfl⟩)
theorem QV {W:World}{own:List Asn}{rr:Int}{vrd:Value}{vrs:Value}{urs:List Value}{rs:Nat}{grm:Nat}{rm:List (List Int × Int)}{vx:Value}{x:List Int}(srd:Ab vrd)(srs:Ab vrs)(ers:Ent own fun w=>Sl w vrs rs 1 urs)(hrm:Ent own (BO Bc valI grm rm))(sx:Ab vx)(ex:Ent own fun w=>Ints w vx x)(hrr:rr≤4)(hx:All64 x)(hxl:x.length≤1073741824)(htab:Ent own Cm):Spec Tryz.prog 52 [.agg #[J (rr),vrd,vrs,.map (some grm)],vx] W own (fun v ow=>v = .bool (EL rr rm x)∧ow=own):=by
 refine Spec.enter Tryz.f52 _ Tryz.func52 rfl (n:=16) rfl rfl ?_
 refine Zs (Zr (Yt (OG.box (cs:=[J (rr),vrd,vrs,.map (some grm)]) rfl rfl rfl) ?_))
 rintro _ _ ⟨g1,rfl,rfl⟩
 refine Za rfl (Zn (Zt (Zs (Zr (Zd (Qa Df 0 [_,_,_,_]) rfl ?_)))))
 refine Zm rfl (Yt (Yc [.agg #[J (rr),vrd,vrs,.map (some grm)],vx] PY (by exact(P2 srd srs (Ent.drop 1 ers) (Ent.drop 1 hrm) sx (Ent.drop 1 ex) (hrr) (hx) (hxl) ((Ent.drop 1 htab))))) ?_)
 rintro _ _ ⟨rfl,rfl⟩
 refine Zm rfl (Zd (OD.extract rfl rfl rfl) rfl ?_)
 refine Zd (OD.extract rfl rfl rfl) rfl ?_
 refine Zd (OD.extract rfl rfl rfl) rfl ?_
 refine Za rfl (Za rfl (Za rfl (Zn (Zt (Zs (Zr (Zm rfl (Za rfl (Zn (Zt (GC.ret ?_)))))))))))
 exact GE.body [] 1 (Ao rfl rfl) rfl (⟨rfl,rfl⟩)
theorem Ds {W:World}{own:List Asn}{vL:Value}{uL:List Value}{L:List (List Int)}{vx:Value}{x:List Int}(sL:Ab vL)(eL:Ent own fun w=>Sl w vL L.length 1 uL)(mL:∀ k,k<L.length→Ent own fun w=>Ints w (uL.getD k undef) (L.getD k []))(lL:uL.length=L.length)(aL:AllS uL)(sx:Ab vx)(ex:Ent own fun w=>Ints w vx x)(hll:L.length≤1073741824)(hle:∀ k,k<L.length→(L.getD k []).length≤1073741824)(hb:∀ k,k<x.length → -1000≤x.getD k 0∧x.getD k 0≤1000)(hl:x.length≤1073741824):Spec Tryz.prog 91 [vL,vx] W own (fun v ow=>v = .bool (rtB L x)∧ow=own):=by
 refine Spec.enter Tryz.f91 _ Tryz.func91 rfl (n:=16) rfl rfl ?_
 refine Zs (Zr (Za rfl (Zn (Zt (Zs (Zr (Zm rfl (Zm rfl (Yt (Yc [vL,vx] Hd (by exact(Cw sL eL (fun k hk=>((mL k hk))) lL aL sx ex (hll) (hle)))) ?_)))))))))
 rintro _ _ ⟨rfl,hzz⟩;obtain rfl:=hzz.symm
 refine Zd (OD.geq rfl rfl rfl) rfl ?_
 refine Zm rfl ?_
 rcases Bool.eq_false_or_eq_true (decide (0≤plF L x)) with hg1 | hg1
 have hg1e:=hg1
 rw[hg1e]
 replace hg1:=of_decide_eq_true hg1
 iterate 5 refine Yk ?_
 refine Zd (OD.pickT rfl rfl rfl) rfl ?_
 refine Za rfl (Zn (Zt (GC.ret ?_)))
 exact GE.body [] 0 (Ao rfl rfl) rfl (⟨congrArg (fun a0=>(.bool (a0):Value)) ((by rw[rtB,← E3,← E3,hg1e] <;> rfl:(true:Bool)=rtB L x)),rfl⟩)
 have hg1e:=hg1
 rw[hg1e]
 replace hg1:=of_decide_eq_false hg1
 refine Yd (OD.move rfl rfl) ?_
 refine Yd (OD.move rfl rfl) ?_
 refine Ye (Yc [vx] EE (by exact(BA sx ex (hb) (hl)))) ?_
 rintro v2 _ ⟨_,rfl,hs3,rfl⟩
 refine Ye (Yc [vL,v2] Hd (by exact(Cw sL (Ent.drop 1 eL) (fun k hk=>(Ent.drop 1 (mL k hk))) lL aL hs3 (Ei 0) (hll) (hle)))) ?_
 rintro _ _ ⟨rfl,rfl⟩
 refine Yd (OD.geq rfl rfl rfl) ?_
 refine Zd (OD.pickF rfl rfl rfl) rfl ?_
 refine Za rfl (Zn (Zt (GC.ret ?_)))
 exact GE.body [] 1 (Ao rfl rfl) rfl (⟨congrArg (fun a0=>(.bool (a0):Value)) ((by rw[rtB,← E3,← E3,hg1e] <;> rfl:(decide (0≤plF L (Av x)):Bool)=rtB L x)),rfl⟩)
theorem Eg {W:World}{own:List Asn}{vx:Value}{x:List Int}{k:Int}{vy:Value}{y:List Int}(sx:Ab vx)(ex:Ent own fun w=>Ints w vx x)(sy:Ab vy)(ey:Ent own fun w=>Ints w vy y)(hl:x.length≤1073741824)(hle:y.length=x.length):Spec Tryz.prog 47 [vx,J (k),vy] W own (fun v ow=>∃ (r0:Value),v=r0∧Ab r0∧ow=ints 3 r0 (Af x k y)::own):=by
 refine Spec.enter Tryz.f47 _ Tryz.func47 rfl (n:=32) rfl rfl ?_
 refine Zs (Zr (Za rfl (Zn (Zt (Zs (Zr (Zm rfl (Yt (Yc [vx] Pc (by exact(KR sx ex (hl)))) ?_))))))))
 rintro v1 _ ⟨_,rfl,hs2,rfl⟩
 refine Za rfl (Zn (Zt (Zs (Zs (Zr (Za rfl (Zn (Zt (GC.block ?_)))))))))
 refine Yl (ι:=Nat × List Int) (fun⟨i,ys⟩=>[(0,vx),(1,J (k)),(2,vy),(7,v1),(8,J ((i:Int)))]) (fun⟨i,ys⟩=>ints 3 v1 ys::own) (fun⟨i,ys⟩=>(i≤y.length)∧(ys.length=x.length)∧(ys=(List.range i).foldl (fun(o:List Int) (i:Nat)=>o.set i (IntKind.i64.wrap (o.getD i 0+IntKind.i64.wrap (k*y.getD i 0)))) x)) (fun⟨i,ys⟩=>y.length - i) (0,x) (⟨by omega,rfl,rfl⟩) [] 0 ?_
 rintro⟨i,ys⟩ ⟨hi,hyl,hy⟩
 refine Zs (Zs (Zr (Zm rfl (Zm rfl (Zd (Qn Ac (Ent.drop 1 ex)) rfl ?_)))))
 refine Zd Bb rfl ?_
 refine Zn (Zt ?_)
 refine GC.cond rfl (fun hc3=>?_) (fun hc3=>?_)
 replace hc3:=of_decide_eq_true hc3
 refine Zk (Zt (Zs (GC.block ?_)))
 refine Ya [(0,_),(1,_),(2,_),(7,_),(8,_)] ?_
 refine Wp [Z0 17 v1,Z0 18 (J ((i:Int))),Z0 19 v1,Z0 20 (J ((i:Int))),Z1 21 [(2,19),(3,20)] (Aa v1 1 (i)),Z1 22 [(4,21)] (J (ys.getD (i) 0)),Z0 23 (J (k)),Z0 24 vy,Z0 25 (J ((i:Int))),Z1 26 [(7,24),(8,25)] (Aa vy 1 (i)),Z1 27 [(9,26)] (J (y.getD (i) 0)),Z1 28 [(6,23),(10,27)] (J (IntKind.i64.wrap (k*(y.getD (i) 0)))),Z1 29 [(5,22),(11,28)] (J (IntKind.i64.wrap ((ys.getD (i) 0)+(IntKind.i64.wrap (k*(y.getD (i) 0)))))),Z1 30 [(0,17),(1,18)] (Aa v1 1 (i))] (Yv (Yv (Yv (Yv (Zc (fun _ _ _=>Zq (Qi Ac (Ei 0)) rfl) (Zc (fun _ _ _=>Zq (Qv Ak (Ei 0)) rfl) (Yv (Yv (Yv (Zc (fun _ _ _=>Zq (Qi Ac (Ent.drop 1 ey.app)) rfl) (Zc (fun _ _ _=>Zq (Qv Ak (Ent.drop 1 ey.app)) rfl) (Zc (fun _ _ _=>Zq CN rfl) (Zc (fun _ _ _=>Zq Ha rfl) (Zc (fun _ _ _=>Zq (Qi Ac (Ei 0)) rfl) As.nil)))))))))))))) ?_
 intro θ _
 refine Yb [(0,_),(1,_),(2,_),(7,_),(8,_),(29,J (IntKind.i64.wrap ((ys.getD (i) 0)+(IntKind.i64.wrap (k*(y.getD (i) 0)))))),(30,Aa v1 1 (i))] (_::_) ?_
 show G _ _ _ [_] _ _ _ _
 refine G.stepD0 (OD.storeInt rfl Ak rfl rfl (i:=0) rfl (by omega)) rfl rfl ?_
 refine Zn (GE.blockN (Zt (Zr ?_)))
 refine Zm rfl (Zd (OD.addI rfl rfl rfl (by first | omega | (simp only[List.length_set,List.length_replicate];omega))) rfl ?_)
 exact Za rfl (Zn (Yg (i+1,(ys).set (i) (IntKind.i64.wrap ((ys.getD (i) 0)+(IntKind.i64.wrap (k*(y.getD (i) 0)))))) (⟨by omega,by rw[List.length_set];exact hyl,Ar hy rfl⟩) [] 0))
 replace hc3:=of_decide_eq_false hc3
 refine GC.exit (Zp (Zp (GE.hit (Zt (Zs (Zr ?_))))))
 refine Zm rfl (Za rfl (Zn (Zt (GC.ret ?_))))
 exact GE.body [] 0 (Ao rfl rfl) rfl (⟨v1,rfl,hs2,congrArg (fun l0=>ints 3 v1 l0::own) ((by rw[hy,show i=y.length by omega];rfl:ys=Af x k y))⟩)
end Go.Proofs.YtbmnnbglipkidaaGreatDoor
