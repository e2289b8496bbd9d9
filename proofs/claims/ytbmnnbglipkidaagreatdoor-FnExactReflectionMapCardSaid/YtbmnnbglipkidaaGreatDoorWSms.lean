/-
  Tables of simple algebras by the second text: contracts by walks.
-/
import Derived.Test.YtbmnnbglipkidaaGreatDoorWCnS
import Derived.Test.YtbmnnbglipkidaaGreatDoorZ60
namespace Go.Proofs.YtbmnnbglipkidaaGreatDoor
set_option maxRecDepth 100000
set_option maxHeartbeats 4000000
set_option linter.unusedVariables false
set_option linter.unusedSimpArgs false
open Go.RowKit
theorem K6:∀ us w,(callFunc 59 us).run Tryz.prog w = .ok (.enter 59 us) w:=fun us w=>by kernel_rfl
theorem dA:∀ us w,(callFunc 60 us).run Tryz.prog w = .ok (.enter 60 us) w:=fun us w=>by kernel_rfl
theorem Oa:∀ us w,(callFunc 78 us).run Tryz.prog w = .ok (.enter 78 us) w:=fun us w=>by kernel_rfl
theorem bg:∀ us w,(callFunc 122 us).run Tryz.prog w = .ok (.enter 122 us) w:=fun us w=>by kernel_rfl
theorem bL:∀ us w,(callFunc 123 us).run Tryz.prog w = .ok (.enter 123 us) w:=fun us w=>by kernel_rfl
theorem OW:∀ us w,(callFunc 125 us).run Tryz.prog w = .ok (.enter 125 us) w:=fun us w=>by kernel_rfl
theorem bj:∀ us w,(callFunc 127 us).run Tryz.prog w = .ok (.enter 127 us) w:=fun us w=>by kernel_rfl
theorem E6:∀ us w,(callFunc 166 us).run Tryz.prog w = .ok (.enter 166 us) w:=fun us w=>by kernel_rfl
theorem Zy {W:World}{own:List Asn}{cr:Int}{cd:List Int}{vL:Value}{uL:List Value}(sL:Ab vL)(eL:Ent own fun w=>Sl w vL (rSt cr cd).length 1 uL)(mL:∀ k,k<(rSt cr cd).length→Ent own fun w=>Ints w (uL.getD k undef) ((rSt cr cd).getD k []))(lL:uL.length=(rSt cr cd).length)(aL:AllS uL)(hS:(Ax cr cd).isSome=true):Spec Tryz.prog 122 [vL] W own (fun v ow=>∃ (v0:Value) (ws0:List Value),v=v0∧Ab v0∧(AllS (uL++ws0))∧(ws0.length=(rSt cr cd).length)∧ow=lst 22 v0 (uL++ws0)::many (ints 3) ws0 ((rSt cr cd).map Av)::own):=by
 have hcr:=(AB hS).1
 have hcd:=(AB hS).2
 have hMl:smM cr cd=(rSt cr cd).length:=rfl
 have hNl:smN cr cd=2*smM cr cd+cr.toNat:=rfl
 have hr4:=(rtOk hS).rk
 have hlo:=(rtOk hS).lo
 have hRf:(rSt cr cd).length≤30:=by have h1:=(rtOk hS).slen;have h2:=(rtOk hS).few;omega
 have hle:∀ k,k<(rSt cr cd).length→((rSt cr cd).getD k []).length≤1073741824:=fun k hk=>by have:=(Ay hS (Bh hk)).1;omega
 refine Spec.enter Tryz.f122 _ Tryz.func122 rfl (n:=23) rfl rfl ?_
 refine Zs (Zr (Za rfl (Zn (Zt (Zs (Zr (Yt (OG.buildLst (xs:=[]) (us:=[]) rfl AM rfl rfl rfl rfl rfl) ?_)))))))
 rintro v1 _ ⟨hs2,rfl⟩
 refine Zm rfl (Yt (OG.appendLst 0 rfl rfl AM rfl rfl rfl (Ent.len (Ent.drop 1 eL) (by omega)) (List.all_eq_true.2 fun u hu=>by simpa using aL.one u hu) (by simp[maxLen] <;> omega)) ?_)
 rintro v3 _ ⟨hs4,rfl⟩
 refine Za rfl (Zn (Zt (Zs (Zs (Zr (Za rfl (Zn (Zt (GC.block ?_)))))))))
 have hal0:AllS (uL++[]):=by rw[List.append_nil];exact aL
 refine GC.ownEq (own':=lst 22 v3 (uL++[])::own) (by rw[List.append_nil];rfl) ?_
 refine GC.many0 (ints 3) ?_
 refine GC.ownEq (own':=many (ints 3) [] (((rSt cr cd).take 0).map Av)::lst 22 v3 (uL++[])::own) (rfl) ?_
 refine Yl (ι:=Nat × List Value × Value) (fun⟨k,ws,v⟩=>[(0,vL),(3,v),(4,J ((k:Int)))]) (fun⟨k,ws,v⟩=>many (ints 3) ws (((rSt cr cd).take k).map Av)::lst 22 v (uL++ws)::own) (fun⟨k,ws,v⟩=>(k≤(rSt cr cd).length)∧(ws.length=k)∧(AllS (uL++ws))∧(Ab v)) (fun⟨k,ws,v⟩=>(rSt cr cd).length - k) (0,[],v3) (⟨by omega,rfl,hal0,hs4⟩) [] 0 ?_
 rintro⟨k,ws,v⟩ ⟨hk,hwl,hal,hv⟩
 refine Zs (Zs (Zr (Zm rfl (Zm rfl (Zd (Qn AM (Ent.drop 2 eL)) rfl ?_)))))
 refine Zd Bb rfl ?_
 refine Zn (Zt ?_)
 refine GC.cond rfl (fun hc5=>?_) (fun hc5=>?_)
 replace hc5:=of_decide_eq_true hc5
 have hrk:=Aw hS (Au (Bh (show k<(rSt cr cd).length by omega)))
 refine Zk (Zt (Zs (GC.block (Zr ?_))))
 refine Zm rfl (Zm rfl (Zm rfl (Zd (Qi AM (Ent.drop 2 eL)) rfl ?_)))
 refine Zd (OD.loadElem rfl AH rfl (Ent.drop 2 eL) (by omega) rfl) rfl ?_
 refine Yt (Yc [(uL.getD (k) undef)] EE (by exact(BA (aL.get (by omega)) (Ent.drop 2 (mL (k) (by omega))) (fun j _=>by have:=hrk.2.1 j;omega) (by have:=hrk.1;omega)))) ?_
 rintro v6 _ ⟨_,rfl,hs7,rfl⟩
 refine Yt (OG.buildLst (xs:=[.tmp 19]) (us:=[v6]) rfl AM rfl rfl rfl (Ad (Ab.one hs7) rfl) rfl) ?_
 rintro v8 _ ⟨hs9,rfl⟩
 refine Yt (OG.appendLst 3 rfl rfl AM rfl rfl rfl (Ent.lst (i:=0) rfl) (List.all_eq_true.2 fun u hu=>by simpa using(AllS.snoc AllS.nil hs7).one u hu) (by simp[maxLen] <;> omega)) ?_
 rintro v10 _ ⟨hs11,rfl⟩
 refine Za rfl (Zn (GE.blockN (Zt (Zr ?_))))
 refine Zm rfl (Zd Qp rfl ?_)
 refine Za rfl (Zn (Yr [1,1,0,0] (_::_::_::_::own) ?_))
 refine GE.manyPush (by rw[hwl,List.length_map,List.length_take];omega) ?_
 have haln:AllS (uL++(ws++[v6])):=by rw[← List.append_assoc];exact(hal.snoc hs7)
 refine GE.ownEq (own':=many (ints 3) (ws++[v6]) (((rSt cr cd).take (k+1)).map Av)::lst 22 v8 [v6]::lst 22 v10 (uL++(ws++[v6]))::own) (by rw[X7 (by omega),List.append_assoc] <;> rfl) ?_
 exact Yg (k+1,ws++[v6],v10) (⟨by omega,by rw[List.length_append,List.length_singleton,hwl],haln,hs11⟩) [0,1] 1
 replace hc5:=of_decide_eq_false hc5
 refine GC.exit (Zp (Zp (GE.hit (Zt (Zs (Zr ?_))))))
 refine Zm rfl (Za rfl (Zn (Zt (GC.ret ?_))))
 refine GE.ownEq (own':=many (ints 3) ws ((rSt cr cd).map Av)::lst 22 v (uL++ws)::own) (by dsimp only;rw[show k=(rSt cr cd).length by omega,List.take_length]) ?_
 skip
 exact GE.body [1,0] 0 (Ao rfl rfl) rfl (⟨v,ws,rfl,(hv),(hal),(by omega),rfl⟩)
theorem SO {W:World}{own:List Asn}{p:Int}{n:Int}{N:Nat}(hpr:AJ p=true)(hn:n=(N:Int))(h28:N≤28):Spec Tryz.prog 123 [J (p),J (n)] W own (fun v ow=>∃ (r2:Value),v = .agg #[J (p),J (n),r2]∧Ab r2∧ow=ints 3 r2 (List.replicate (N*N*N) 0)::own):=by
 have hcu:=(HR h28).2
 have hin:BZ n 0 28=true:=inB_of (by omega) (by omega)
 refine Spec.enter Tryz.f123 _ Tryz.func123 rfl (n:=23) rfl rfl ?_
 refine Zs (Zr (Yt (OG.alloc rfl Bj (zs:=[J (0),J (0),.slice none 0 0]) rfl) ?_))
 rintro _ _ ⟨g1,rfl,rfl⟩
 refine Zn (Zt (Zs (Zs (Zr (Zm rfl (Yt (OG.imp (K':=fun v ow=>v = .bool true∧ow=box g1 43 [J (0),J (0),.slice none 0 0]::own) (Yc [J (p)] K6 (by exact Cr)) (by rintro _ _ ⟨rfl,rfl⟩;exact⟨congrArg Value.bool (hpr),rfl⟩)) ?_))))))
 rintro _ _ ⟨rfl,rfl⟩
 refine Zd (OD.not rfl rfl) rfl ?_
 refine Zm rfl (Yd (OD.move rfl rfl) ?_)
 refine Ye (OG.imp (K':=fun v ow=>v = .bool true∧ow=box g1 43 [J (0),J (0),.slice none 0 0]::own) (Yc [J (n),J (0),J (28)] Md (by exact G6)) (by rintro _ _ ⟨rfl,rfl⟩;exact⟨congrArg Value.bool (hin),rfl⟩)) ?_
 rintro _ _ ⟨rfl,rfl⟩
 refine Yd (OD.not rfl rfl) ?_
 refine Zd (OD.pickF rfl rfl rfl) rfl ?_
 refine Zn (Zt (GC.condF rfl (Zk (Zt (Zs (Zr ?_))))))
 refine Zm rfl (Zm rfl (Zm rfl (Zm rfl (Zd CN rfl ?_))))
 refine Zm rfl (Zd (OD.eqv CN (congrArg (Value.int .i64) ((by rw[hn];exact(HR h28).1):(IntKind.i64.wrap ((IntKind.i64.wrap (n*n))*n):Int)=(((N*N*N:Nat):Int))))) rfl ?_)
 refine Yt (OG.makeInts rfl Ac rfl rfl (by omega)) ?_
 rintro v2 _ ⟨hs3,rfl⟩
 refine Zd (OD.build (idx:=[0,1,2]) (xs:=[.tmp 14,.tmp 15,.tmp 21]) (vs:=[J (p),J (n),v2]) (cs:=[[J (p)],[J (n)],[v2]]) (zs:=[J (0),J (0),.slice none 0 0]) (r:=[J (p),J (n),v2]) rfl Bj rfl rfl rfl ⟨rfl,⟨rfl,⟨(AN (Ab.one hs3)),trivial⟩⟩⟩ rfl) rfl ?_
 refine Yu Bj [J (p),J (n),v2] 1 (Ad rfl (Ad rfl (Ad (Ab.one hs3) rfl))) ?_
 refine Zn (Zt (GC.ret ?_))
 exact GE.body [0] 1 (AZ rfl (RVs.cons (Ag Bj rfl (i:=1) rfl rfl) RVs.nil) rfl) rfl (⟨v2,rfl,hs3,rfl⟩)
theorem Ms {W:World}{own:List Asn}{ap:Int}{an:Int}{vad:Value}{ad:List Int}{i:Nat}{j:Nat}{k:Nat}{x:Int}(sad:Ab vad){N:Nat}(hn:an=(N:Int))(h28:N≤28)(hi:i<N)(hj:j<N)(hk:k<N)(hl:ad.length=N*N*N)(hap:1≤ap∧ap≤1000000)(hv : -20000≤x∧x≤20000):Spec Tryz.prog 125 [.agg #[J (ap),J (an),vad],J ((i:Int)),J ((j:Int)),J ((k:Int)),J (x)] W (ints 3 vad ad::own) (fun v ow=>v = .tuple #[]∧ow=ints 3 vad ((ad.set ((i*N+j)*N+k) (x%ap)).set ((j*N+i)*N+k) ((0 - x)%ap))::own):=by
 obtain⟨q1,hq1⟩:∃ q1:Nat,q1=(i*N+j)*N+k:=⟨_,rfl⟩
 obtain⟨q2,hq2⟩:∃ q2:Nat,q2=(j*N+i)*N+k:=⟨_,rfl⟩
 obtain⟨hqe1,hql1⟩:=fS h28 hi hj hk hq1
 obtain⟨hqe2,hql2⟩:=fS h28 hj hi hk hq2
 refine Spec.enter Tryz.f125 _ Tryz.func125 rfl (n:=47) rfl rfl ?_
 refine Zs (Zr (Yt (OG.box (cs:=[J (ap),J (an),vad]) rfl rfl rfl) ?_))
 rintro _ _ ⟨g1,rfl,rfl⟩
 refine Zn (Zt (Zs (Ya [(1,_),(2,_),(3,_),(4,_),(5,_)] ?_)))
 refine Wp [Z0 10 (Pg g1 2),Z1 11 [(0,10)] vad,Z0 12 (J ((i:Int))),Z0 13 (Pg g1 1),Z1 14 [(3,13)] (J (an)),Z1 15 [(2,12),(4,14)] (J (IntKind.i64.wrap ((i:Int)*an))),Z0 16 (J ((j:Int))),Z1 17 [(5,15),(6,16)] (J (IntKind.i64.wrap ((IntKind.i64.wrap ((i:Int)*an))+(j:Int)))),Z0 18 (Pg g1 1),Z1 19 [(8,18)] (J (an)),Z1 20 [(7,17),(9,19)] (J (IntKind.i64.wrap ((IntKind.i64.wrap ((IntKind.i64.wrap ((i:Int)*an))+(j:Int)))*an))),Z0 21 (J ((k:Int))),Z1 22 [(10,20),(11,21)] (J ((q1:Int))),Z0 23 (J (x)),Z0 24 (Pg g1 0),Z1 25 [(14,24)] (J (ap)),Z1 26 [(13,23),(15,25)] (J (x%ap)),Z1 27 [(1,11),(12,22)] (Aa vad 1 (q1))] (Zc (fun _ _ _=>Zq (Qf GH) rfl) (Zc (fun _ _ _=>Zq (Ql AH 0) rfl) (Yv (Zc (fun _ _ _=>Zq (Qf Cv) rfl) (Zc (fun _ _ _=>Zq (Ql Ak 0) rfl) (Zc (fun _ _ _=>Zq CN rfl) (Yv (Zc (fun _ _ _=>Zq Ha rfl) (Zc (fun _ _ _=>Zq (Qf Cv) rfl) (Zc (fun _ _ _=>Zq (Ql Ak 0) rfl) (Zc (fun _ _ _=>Zq CN rfl) (Yv (Zc (fun _ _ _=>Zq (OD.eqv Ha (congrArg (Value.int .i64) ((by rw[hn];exact hqe1):(IntKind.i64.wrap ((IntKind.i64.wrap ((IntKind.i64.wrap ((IntKind.i64.wrap ((i:Int)*an))+(j:Int)))*an))+(k:Int)):Int)=((q1:Int))))) rfl) (Yv (Zc (fun _ _ _=>Zq (Qf G8) rfl) (Zc (fun _ _ _=>Zq (Ql Ak 0) rfl) (Zc (fun _ _ _=>Zq (Yc [J (x),J (ap)] E6 (by exact(Fm (hap)))) rfl) (Zc (fun _ _ _=>Zq (Qi Ac (Ei 1)) rfl) As.nil)))))))))))))))))) ?_
 intro θ _
 refine Yb [(1,_),(2,_),(3,_),(4,_),(5,_),(26,J (x%ap)),(27,Aa vad 1 (q1))] (_::_) ?_
 show G _ _ _ [_] _ _ _ _
 refine G.stepD0 (OD.storeInt rfl Ak rfl rfl (i:=1) rfl (by omega)) rfl rfl ?_
 refine Zn (Zt (Ya [(1,_),(2,_),(3,_),(4,_),(5,_)] ?_))
 refine Wp [Z0 28 (Pg g1 2),Z1 29 [(0,28)] vad,Z0 30 (J ((j:Int))),Z0 31 (Pg g1 1),Z1 32 [(3,31)] (J (an)),Z1 33 [(2,30),(4,32)] (J (IntKind.i64.wrap ((j:Int)*an))),Z0 34 (J ((i:Int))),Z1 35 [(5,33),(6,34)] (J (IntKind.i64.wrap ((IntKind.i64.wrap ((j:Int)*an))+(i:Int)))),Z0 36 (Pg g1 1),Z1 37 [(8,36)] (J (an)),Z1 38 [(7,35),(9,37)] (J (IntKind.i64.wrap ((IntKind.i64.wrap ((IntKind.i64.wrap ((j:Int)*an))+(i:Int)))*an))),Z0 39 (J ((k:Int))),Z1 40 [(10,38),(11,39)] (J ((q2:Int))),Z0 41 (J (x)),Z1 42 [(13,41)] (J (0 - x)),Z0 43 (Pg g1 0),Z1 44 [(15,43)] (J (ap)),Z1 45 [(14,42),(16,44)] (J ((0 - x)%ap)),Z1 46 [(1,29),(12,40)] (Aa vad 1 (q2))] (Zc (fun _ _ _=>Zq (Qf GH) rfl) (Zc (fun _ _ _=>Zq (Ql AH 0) rfl) (Yv (Zc (fun _ _ _=>Zq (Qf Cv) rfl) (Zc (fun _ _ _=>Zq (Ql Ak 0) rfl) (Zc (fun _ _ _=>Zq CN rfl) (Yv (Zc (fun _ _ _=>Zq Ha rfl) (Zc (fun _ _ _=>Zq (Qf Cv) rfl) (Zc (fun _ _ _=>Zq (Ql Ak 0) rfl) (Zc (fun _ _ _=>Zq CN rfl) (Yv (Zc (fun _ _ _=>Zq (OD.eqv Ha (congrArg (Value.int .i64) ((by rw[hn];exact hqe2):(IntKind.i64.wrap ((IntKind.i64.wrap ((IntKind.i64.wrap ((IntKind.i64.wrap ((j:Int)*an))+(i:Int)))*an))+(k:Int)):Int)=((q2:Int))))) rfl) (Yv (Zc (fun _ _ _=>Zq (OD.subI rfl rfl rfl (by first | omega | (simp only[List.length_set,List.length_replicate];omega))) rfl) (Zc (fun _ _ _=>Zq (Qf G8) rfl) (Zc (fun _ _ _=>Zq (Ql Ak 0) rfl) (Zc (fun _ _ _=>Zq (Yc [J (0 - x),J (ap)] E6 (by exact(Fm (hap)))) rfl) (Zc (fun _ _ _=>Zq (OD.indexAddr rfl Ac rfl (Ei 1) rfl (by first | omega | (simp only[List.length_set,List.length_replicate];omega))) rfl) As.nil))))))))))))))))))) ?_
 intro θ _
 refine Yb [(45,J ((0 - x)%ap)),(46,Aa vad 1 (q2))] (_::_) ?_
 show G _ _ _ [_] _ _ _ _
 refine G.stepD0 (OD.storeInt rfl Ak rfl rfl (i:=1) rfl (by first | omega | (simp only[List.length_set,List.length_replicate];omega))) rfl rfl ?_
 exact Zn (GE.bodyN [1] 1 (UN rfl) rfl (⟨rfl,congrArg (fun l0=>ints 3 vad l0::own) ((by rw[hq1,hq2]:((ad).set (q1) (x%ap)).set (q2) ((0 - x)%ap)=(ad.set ((i*N+j)*N+k) (x%ap)).set ((j*N+i)*N+k) ((0 - x)%ap)))⟩))
theorem RY {W:World}{own:List Asn}{cr:Int}{vcd:Value}{cd:List Int}{p:Int}(scd:Ab vcd)(ecd:Ent own fun w=>Ints w vcd cd)(hS:(Ax cr cd).isSome=true)(hpr:AJ p=true)(h28:smN cr cd≤28):Spec Tryz.prog 60 [.agg #[J (cr),vcd],J (p)] W own (fun v ow=>∃ (r2:Value),v = .agg #[J (p),J ((smN cr cd:Nat)),r2]∧Ab r2∧ow=ints 3 r2 (EG cr cd p)::own):=by
 have hcr:=(AB hS).1
 have hcd:=(AB hS).2
 have hMl:smM cr cd=(rSt cr cd).length:=rfl
 have hNl:smN cr cd=2*smM cr cd+cr.toNat:=rfl
 have hr4:=(rtOk hS).rk
 have hlo:=(rtOk hS).lo
 have hRf:(rSt cr cd).length≤30:=by have h1:=(rtOk hS).slen;have h2:=(rtOk hS).few;omega
 have hle:∀ k,k<(rSt cr cd).length→((rSt cr cd).getD k []).length≤1073741824:=fun k hk=>by have:=(Ay hS (Bh hk)).1;omega
 have hpp:=AU hpr
 refine Spec.enter Tryz.f60 _ Tryz.func60 rfl (n:=126) rfl rfl ?_
 refine Zs (Zr (Yt (OG.box (cs:=[J (cr),vcd]) rfl rfl rfl) ?_))
 rintro _ _ ⟨g1,rfl,rfl⟩
 refine Yt (OG.alloc rfl Bj (zs:=[J (0),J (0),.slice none 0 0]) rfl) ?_
 rintro _ _ ⟨g2,rfl,rfl⟩
 refine Zn (Zt (Zs (Zr (Zd (Qa An 1 [_,_]) rfl ?_))))
 refine Yt (Yc [.agg #[J (cr),vcd]] Q6 (by exact(Fo scd (Ent.drop 2 ecd) (hcr) (hcd) (hS)))) ?_
 rintro v3 _ ⟨_,u4,rfl,hs5,hs6,hs7,rfl⟩
 refine Za rfl (Zn (Zt (Zs (Zr (Zm rfl (Zd (Qn AM (Ent.lst (i:=0) rfl)) rfl ?_))))))
 refine Za rfl (Zn (Zt (Zs (Zr (Zm rfl (Yt (Yc [v3] bg (by exact(Zy hs5 (Ent.len (Ent.lst (i:=0) rfl) (by omega)) (fun k hk=>Ent.manyInts (i:=1) (k:=k) rfl ⟨by omega,hk⟩) (by omega) hs6 (cr:=cr) (cd:=cd) (hS)))) ?_))))))
 rintro v8 _ ⟨_,u9,rfl,hs10,hs11,hs12,rfl⟩
 refine Za rfl (Zn (Zt (Zs ?_)))
 have hall:(u4++u9).length=2*smM cr cd:=by rw[List.length_append];omega
 refine Zr (Zd (Qa An 5 [_,_]) rfl ?_)
 refine Zm rfl (Yt (Yc [.agg #[J (cr),vcd],v3] eg (by exact(YU scd (Ent.drop 6 ecd) hs5 (Ent.len (Ent.lst (i:=2) rfl) (by omega)) (fun k hk=>Ent.manyInts (i:=3) (k:=k) rfl ⟨by omega,hk⟩) (by omega) hs6 (hS)))) ?_)
 rintro _ _ ⟨g13,v14,v15,rfl,hs16,hs17,rfl⟩
 refine Za rfl (Zn (Zt (Zs (Zr (Zm rfl (Zm rfl (Zd Qm rfl ?_)))))))
 refine Zd (Qf Aq) rfl ?_
 refine Zd (Ql Ak 7) rfl ?_
 refine Zd Qp rfl ?_
 refine Yt (Yc [J (p),J ((2*(u4.length:Nat))+cr)] bL (by exact(SO (N:=smN cr cd) (hpr) (by omega) (h28)))) ?_
 rintro _ _ ⟨v18,rfl,hs19,rfl⟩
 refine Yt (OG.alloc rfl Bj (zs:=[J (0),J (0),.slice none 0 0]) rfl) ?_
 rintro _ _ ⟨g20,rfl,rfl⟩
 refine Yu Bj [J (p),J ((2*(u4.length:Nat))+cr),v18] 0 (Ad rfl (Ad rfl (Ad (Ab.one hs19) rfl))) ?_
 refine Zn (Zt (Zs (Zs (Zr (Za rfl (Zn (Zt (GC.block ?_))))))))
 refine Yl (ι:=Nat × List Int) (fun⟨u,ys⟩=>[(2,Pg g1 0),(4,Pg g2 0),(5,v3),(6,J ((u4.length:Nat))),(7,v8),(8,Pg g13 0),(9,Pg g20 0),(10,J ((u:Int)))]) (fun⟨u,ys⟩=>box g20 43 [J (p),J ((2*(u4.length:Nat))+cr),v18]::ints 3 v18 ys::box g13 147 [J (cr),vcd,v3,v14,v15]::memS 4 3 v14 v15 cr cd::lst 22 v8 (u4++u9)::many (ints 3) u9 ((rSt cr cd).map Av)::lst 22 v3 u4::many (ints 3) u4 (rSt cr cd)::box g2 43 [J (0),J (0),.slice none 0 0]::box g1 27 [J (cr),vcd]::own) (fun⟨u,ys⟩=>(u≤2*smM cr cd)∧(SpI cr cd p u 0 0 0 ys)) (fun⟨u,ys⟩=>2*smM cr cd - u) (0,List.replicate ((smN cr cd)*(smN cr cd)*(smN cr cd)) 0) (⟨by omega,SpI.new⟩) [] 0 ?_
 rintro⟨u,ys⟩ ⟨hu,hT0⟩
 refine Zs (Zs (Zr (Zm rfl (Zm rfl (Zd (Qn AM (Ent.lst (i:=4) rfl)) rfl ?_)))))
 refine Zd Bb rfl ?_
 refine Zn (Zt ?_)
 refine GC.cond rfl (fun hc21=>?_) (fun hc21=>?_)
 replace hc21:=of_decide_eq_true hc21
 have hu1:u<2*smM cr cd:=by omega
 have hrx:=FU hS hu1
 obtain⟨hxl,hx10,_⟩:=Aw hS hrx
 have hwl:=Dj cr cd ((Az cr cd).getD (u) [])
 have hw12:=fun q=>gA hS hrx q
 have hiu0:=Q9 hS hu1
 have hiul:=CD (n:=cr) (d:=cd) hu1
 obtain⟨iu,hiu⟩:∃ iu:Nat,iu=spI cr cd u:=⟨_,rfl⟩
 refine Zk (Zt (Zs (GC.block (Zs (Zr ?_)))))
 refine Zm rfl (Zm rfl (Zd (Qi AM (Ent.lst (i:=4) rfl)) rfl ?_))
 refine Zd (OD.loadElem rfl AH rfl (Ent.lst (i:=4) rfl) (by omega) rfl) rfl ?_
 refine Za rfl (Zn (Zt (Zs (Zr (Zd (Qa An 9 [_,_]) rfl ?_)))))
 refine Zm rfl (Zm rfl ?_)
 refine Yt (Yc [.agg #[J (cr),vcd],v3,((u4++u9).getD (u) undef)] Oa (by exact(D6 scd (Ent.drop 10 ecd) hs5 (Ent.len (Ent.lst (i:=6) rfl) (by omega)) (fun k hk=>Ent.manyInts (i:=7) (k:=k) rfl ⟨by omega,hk⟩) (by omega) hs6 (hs11.get (by omega)) (Cq (fun q hq=>Ent.manyInts (i:=7) (k:=q) rfl ⟨by omega,hq⟩) (i:=5) rfl (by omega) (by omega) (by omega)) (hcr) (by omega) (fun k hk=>hle k hk) (fun j _=>by have:=hx10 j;omega) (by omega)))) ?_
 rintro _ _ ⟨rfl,rfl⟩
 refine Zd (OD.eqv (OD.assign rfl rfl) (congrArg (Value.int .i64) ((by rw[hiu];exact hiu0):(l7I cr (rSt cr cd) ((Az cr cd).getD (u) []):Int)=((iu:Int))))) rfl ?_
 refine Zn (Zt (Zs (Zr (Zd (Qa An 9 [_,_]) rfl ?_))))
 refine Zm rfl (Yt (Yc [.agg #[J (cr),vcd],((u4++u9).getD (u) undef)] Pd (by exact(FW scd (Ent.drop 10 ecd) (hs11.get (by omega)) (Cq (fun q hq=>Ent.manyInts (i:=7) (k:=q) rfl ⟨by omega,hq⟩) (i:=5) rfl (by omega) (by omega) (by omega)) (hcr) (hcd) (by omega)))) ?_)
 rintro v22 _ ⟨_,rfl,hs23,rfl⟩
 refine Za rfl (Zn (Zt (Zs (Zs (Zr (Za rfl (Zn (Zt (GC.block ?_)))))))))
 refine Yl (ι:=Nat × List Int) (fun⟨k,zs⟩=>[(2,Pg g1 0),(4,Pg g2 0),(5,v3),(6,J ((u4.length:Nat))),(7,v8),(8,Pg g13 0),(9,Pg g20 0),(10,J ((u:Int))),(11,((u4++u9).getD (u) undef)),(12,J ((iu:Int))),(13,v22),(14,J ((k:Int)))]) (fun⟨k,zs⟩=>ints 3 v22 (wtF cr cd ((Az cr cd).getD (u) []))::box g20 43 [J (p),J ((2*(u4.length:Nat))+cr),v18]::ints 3 v18 zs::box g13 147 [J (cr),vcd,v3,v14,v15]::memS 4 3 v14 v15 cr cd::lst 22 v8 (u4++u9)::many (ints 3) u9 ((rSt cr cd).map Av)::lst 22 v3 u4::many (ints 3) u4 (rSt cr cd)::box g2 43 [J (0),J (0),.slice none 0 0]::box g1 27 [J (cr),vcd]::own) (fun⟨k,zs⟩=>(k≤cr.toNat)∧(SpI cr cd p u k 0 0 zs)) (fun⟨k,zs⟩=>cr.toNat - k) (0,ys) (⟨by omega,hT0⟩) [] 0 ?_
 rintro⟨k,zs⟩ ⟨hk,hT1⟩
 refine Zs (Zs (Zr (Zm rfl (Zd (Qf Aq) rfl ?_))))
 refine Zd (Ql Ak 10) rfl ?_
 refine Zd Bb rfl ?_
 refine Zn (Zt ?_)
 refine GC.cond rfl (fun hc24=>?_) (fun hc24=>?_)
 replace hc24:=of_decide_eq_true hc24
 obtain⟨hq,hhq⟩:∃ hq:Nat,hq=smM cr cd+k:=⟨_,rfl⟩
 have hzl:=hT1.len
 have hw12k : -12000≤(wtF cr cd ((Az cr cd).getD (u) [])).getD ((k:Int)).toNat 0∧(wtF cr cd ((Az cr cd).getD (u) [])).getD ((k:Int)).toNat 0≤12000:=hw12 _
 refine Zk (Zt (Zs (GC.block ?_)))
 refine Ya [(2,_),(4,_),(5,_),(6,_),(7,_),(8,_),(9,_),(10,_),(11,_),(12,_),(13,_),(14,_)] ?_
 refine Wp [Z0 60 (.agg #[J (p),J ((2*(u4.length:Nat))+cr),v18]),Z0 61 (J ((u4.length:Nat))),Z0 62 (J ((k:Int))),Z1 63 [(1,61),(2,62)] (J ((hq:Int))),Z0 64 (J ((iu:Int))),Z0 65 (J ((iu:Int))),Z0 66 v22,Z0 67 (J ((k:Int))),Z1 68 [(6,66),(7,67)] (Aa v22 1 (k)),Z1 69 [(8,68)] (J ((wtF cr cd ((Az cr cd).getD (u) [])).getD (k) 0))] (Zc (fun _ _ _=>Zq (Qa Bj 1 [_,_,_]) rfl) (Yv (Yv (Zc (fun _ _ _=>Zq (OD.eqv Qp (congrArg (Value.int .i64) ((by omega):((u4.length:Nat)+(k:Int):Int)=((hq:Int))))) rfl) (Yv (Yv (Yv (Yv (Zc (fun _ _ _=>Zq (Qi Ac (Ei 0)) rfl) (Zc (fun _ _ _=>Zq (Qv Ak (Ei 0)) rfl) As.nil)))))))))) ?_
 intro θ _
 refine Yb [(2,_),(4,_),(5,_),(6,_),(7,_),(8,_),(9,_),(10,_),(11,_),(12,_),(13,_),(14,_),(60,.agg #[J (p),J ((2*(u4.length:Nat))+cr),v18]),(63,J ((hq:Int))),(64,J ((iu:Int))),(65,J ((iu:Int))),(69,J ((wtF cr cd ((Az cr cd).getD (u) [])).getD (k) 0))] (_::_) ?_
 show G _ _ _ [_] _ _ _ _
 refine Yp [2] (_::_::_::_::_::_::_::_::_::_::_::own) ?_
 refine Yt (Yc [.agg #[J (p),J ((2*(u4.length:Nat))+cr),v18],J ((hq:Int)),J ((iu:Int)),J ((iu:Int)),J ((wtF cr cd ((Az cr cd).getD (u) [])).getD (k) 0)] OW (by exact(Ms hs19 (N:=smN cr cd) (by omega) (h28) (by omega) (by omega) (by omega) (by omega) (by omega) (by have:=hw12 k;omega)))) ?_
 rintro _ _ ⟨rfl,rfl⟩
 refine Zn (GE.blockN (Zt (Zr ?_)))
 refine Zm rfl (Zd (OD.addI rfl rfl rfl (by first | omega | (simp only[List.length_set,List.length_replicate];omega))) rfl ?_)
 exact Za rfl (Zn (Yg (k+1,(zs.set ((hq*(smN cr cd)+iu)*(smN cr cd)+iu) (((wtF cr cd ((Az cr cd).getD (u) [])).getD (k) 0)%p)).set ((iu*(smN cr cd)+hq)*(smN cr cd)+iu) ((0 - ((wtF cr cd ((Az cr cd).getD (u) [])).getD (k) 0))%p)) (⟨by omega,hT1.wtq hS hu1 (by omega) rfl hiu hhq⟩) [1,1,0,0,0,0,0,0,0,0,0] 0))
 replace hc24:=of_decide_eq_false hc24
 refine GC.exit (Zp (Zp (GE.hit (Zt (Zs (Zr ?_))))))
 refine Za rfl (Zn (Zt (GC.block ?_)))
 refine Yl (ι:=Nat × List Int) (fun⟨v,us⟩=>[(2,Pg g1 0),(4,Pg g2 0),(5,v3),(6,J ((u4.length:Nat))),(7,v8),(8,Pg g13 0),(9,Pg g20 0),(10,J ((u:Int))),(11,((u4++u9).getD (u) undef)),(12,J ((iu:Int))),(15,J ((v:Int)))]) (fun⟨v,us⟩=>ints 3 v22 (wtF cr cd ((Az cr cd).getD (u) []))::box g20 43 [J (p),J ((2*(u4.length:Nat))+cr),v18]::ints 3 v18 us::box g13 147 [J (cr),vcd,v3,v14,v15]::memS 4 3 v14 v15 cr cd::lst 22 v8 (u4++u9)::many (ints 3) u9 ((rSt cr cd).map Av)::lst 22 v3 u4::many (ints 3) u4 (rSt cr cd)::box g2 43 [J (0),J (0),.slice none 0 0]::box g1 27 [J (cr),vcd]::own) (fun⟨v,us⟩=>(v≤u)∧(SpI cr cd p u cr.toNat v 0 us)) (fun⟨v,us⟩=>u - v) (0,zs) (⟨by omega,(show k=cr.toNat by omega) ▸ hT1⟩) [] 0 ?_
 rintro⟨v,us⟩ ⟨hv,hT2⟩
 refine Zs (Zs (Zr (Zm rfl (Zm rfl (Zd Bb rfl ?_)))))
 refine Zn (Zt ?_)
 refine GC.cond rfl (fun hc25=>?_) (fun hc25=>?_)
 replace hc25:=of_decide_eq_true hc25
 have hv1:v<2*smM cr cd:=by omega
 have hry:=FU hS hv1
 obtain⟨hyl,hy10,_⟩:=Aw hS hry
 have hjv0:=Q9 hS hv1
 have hjvl:=CD (n:=cr) (d:=cd) hv1
 obtain⟨jv,hjv⟩:∃ jv:Nat,jv=spI cr cd v:=⟨_,rfl⟩
 have hml:=AC ((Az cr cd).getD (v) [])
 have hul:=hT2.len
 have hpl:=AQ ((Az cr cd).getD (u) []) 1 ((Az cr cd).getD (v) [])
 have hcrl:=RK cr cd ((Az cr cd).getD (v) [])
 refine Zk (Zt (Zs (GC.block (Zs (Zr ?_)))))
 refine Zm rfl (Zm rfl (Zd (Qi AM (Ent.lst (i:=5) rfl)) rfl ?_))
 refine Zd (OD.loadElem rfl AH rfl (Ent.lst (i:=5) rfl) (by omega) rfl) rfl ?_
 refine Za rfl (Zn (Zt (Zs (Zr (Zd (Qa An 10 [_,_]) rfl ?_)))))
 refine Zm rfl (Zm rfl ?_)
 refine Yt (Yc [.agg #[J (cr),vcd],v3,((u4++u9).getD (v) undef)] Oa (by exact(D6 scd (Ent.drop 11 ecd) hs5 (Ent.len (Ent.lst (i:=7) rfl) (by omega)) (fun k hk=>Ent.manyInts (i:=8) (k:=k) rfl ⟨by omega,hk⟩) (by omega) hs6 (hs11.get (by omega)) (Cq (fun q hq=>Ent.manyInts (i:=8) (k:=q) rfl ⟨by omega,hq⟩) (i:=6) rfl (by omega) (by omega) (by omega)) (hcr) (by omega) (fun k hk=>hle k hk) (fun j _=>by have:=hy10 j;omega) (by omega)))) ?_
 rintro _ _ ⟨rfl,rfl⟩
 refine Zd (OD.eqv (OD.assign rfl rfl) (congrArg (Value.int .i64) ((by rw[hjv];exact hjv0):(l7I cr (rSt cr cd) ((Az cr cd).getD (v) []):Int)=((jv:Int))))) rfl ?_
 refine Zn (Zt (Zs (Zs (Zr (Zm rfl (Zm rfl (Yt (Yc [((u4++u9).getD (v) undef)] EE (by exact(BA (hs11.get (by omega)) (Cq (fun q hq=>Ent.manyInts (i:=8) (k:=q) rfl ⟨by omega,hq⟩) (i:=6) rfl (by omega) (by omega) (by omega)) (fun j _=>by have:=hy10 j;omega) (by omega)))) ?_)))))))
 rintro v26 _ ⟨_,rfl,hs27,rfl⟩
 refine Yt (Yc [((u4++u9).getD (u) undef),v26] MR (by exact(F9 (hs11.get (by omega)) (Cq (fun q hq=>Ent.manyInts (i:=9) (k:=q) rfl ⟨by omega,hq⟩) (i:=7) rfl (by omega) (by omega) (by omega)) hs27 (Ei 0) (by omega)))) ?_
 rintro _ _ ⟨rfl,rfl⟩
 refine Zn (Zt ?_)
 refine GC.cond rfl (fun hc28=>?_) (fun hc28=>?_)
 refine Zs (Zr (Zd (Qa An 11 [_,_]) rfl ?_))
 refine Zm rfl (Yt (Yc [.agg #[J (cr),vcd],((u4++u9).getD (v) undef)] bj (by exact(PC scd (Ent.drop 12 ecd) (hs11.get (by omega)) (Cq (fun q hq=>Ent.manyInts (i:=9) (k:=q) rfl ⟨by omega,hq⟩) (i:=7) rfl (by omega) (by omega) (by omega)) (hS) (by omega) (Th hS hry)))) ?_)
 rintro v29 _ ⟨_,rfl,hs30,rfl⟩
 refine Za rfl (Zn (Zt (Zs (Zs (Zr (Za rfl (Zn (Zt (GC.block ?_)))))))))
 refine Yl (ι:=Nat × List Int) (fun⟨t,xs⟩=>[(2,Pg g1 0),(4,Pg g2 0),(5,v3),(6,J ((u4.length:Nat))),(7,v8),(8,Pg g13 0),(9,Pg g20 0),(10,J ((u:Int))),(11,((u4++u9).getD (u) undef)),(12,J ((iu:Int))),(15,J ((v:Int))),(17,J ((jv:Int))),(18,v29),(19,J ((t:Int)))]) (fun⟨t,xs⟩=>ints 3 v29 (crF cr cd ((Az cr cd).getD (v) []))::ints 3 v26 (Av ((Az cr cd).getD (v) []))::ints 3 v22 (wtF cr cd ((Az cr cd).getD (u) []))::box g20 43 [J (p),J ((2*(u4.length:Nat))+cr),v18]::ints 3 v18 xs::box g13 147 [J (cr),vcd,v3,v14,v15]::memS 4 3 v14 v15 cr cd::lst 22 v8 (u4++u9)::many (ints 3) u9 ((rSt cr cd).map Av)::lst 22 v3 u4::many (ints 3) u4 (rSt cr cd)::box g2 43 [J (0),J (0),.slice none 0 0]::box g1 27 [J (cr),vcd]::own) (fun⟨t,xs⟩=>(t≤cr.toNat)∧(SpI cr cd p u cr.toNat v (smM cr cd+t) xs)) (fun⟨t,xs⟩=>cr.toNat - t) (0,us) (⟨by omega,SpI.co0 hS hT2 hu1 (by omega) hc28⟩) [] 0 ?_
 rintro⟨t,xs⟩ ⟨ht,hT3⟩
 refine Zs (Zs (Zr (Zm rfl (Zd (Qf Aq) rfl ?_))))
 refine Zd (Ql Ak 12) rfl ?_
 refine Zd Bb rfl ?_
 refine Zn (Zt ?_)
 refine GC.cond rfl (fun hc31=>?_) (fun hc31=>?_)
 replace hc31:=of_decide_eq_true hc31
 obtain⟨c0,hc0⟩:∃ c0:Nat,c0=smM cr cd+t:=⟨_,rfl⟩
 have hxsl:=hT3.len
 have hcg:=(MB hS hry (show t<cr.toNat by omega)).2
 have hcg2 : -360≤(crF cr cd ((Az cr cd).getD (v) [])).getD ((t:Int)).toNat 0∧(crF cr cd ((Az cr cd).getD (v) [])).getD ((t:Int)).toNat 0≤360:=hcg
 refine Zk (Zt (Zs (GC.block ?_)))
 refine Ya [(2,_),(4,_),(5,_),(6,_),(7,_),(8,_),(9,_),(10,_),(11,_),(12,_),(15,_),(17,_),(18,_),(19,_)] ?_
 refine Wp [Z0 97 (.agg #[J (p),J ((2*(u4.length:Nat))+cr),v18]),Z0 98 (J ((jv:Int))),Z0 99 (J ((iu:Int))),Z0 100 (J ((u4.length:Nat))),Z0 101 (J ((t:Int))),Z1 102 [(3,100),(4,101)] (J ((c0:Int))),Z0 103 v29,Z0 104 (J ((t:Int))),Z1 105 [(6,103),(7,104)] (Aa v29 1 (t)),Z1 106 [(8,105)] (J ((crF cr cd ((Az cr cd).getD (v) [])).getD (t) 0))] (Zc (fun _ _ _=>Zq (Qa Bj 3 [_,_,_]) rfl) (Yv (Yv (Yv (Yv (Zc (fun _ _ _=>Zq (OD.eqv Qp (congrArg (Value.int .i64) ((by omega):((u4.length:Nat)+(t:Int):Int)=((c0:Int))))) rfl) (Yv (Yv (Zc (fun _ _ _=>Zq (Qi Ac (Ei 0)) rfl) (Zc (fun _ _ _=>Zq (Qv Ak (Ei 0)) rfl) As.nil)))))))))) ?_
 intro θ _
 refine Yb [(2,_),(4,_),(5,_),(6,_),(7,_),(8,_),(9,_),(10,_),(11,_),(12,_),(15,_),(17,_),(18,_),(19,_),(97,.agg #[J (p),J ((2*(u4.length:Nat))+cr),v18]),(98,J ((jv:Int))),(99,J ((iu:Int))),(102,J ((c0:Int))),(106,J ((crF cr cd ((Az cr cd).getD (v) [])).getD (t) 0))] (_::_) ?_
 show G _ _ _ [_] _ _ _ _
 refine Yp [4] (_::_::_::_::_::_::_::_::_::_::_::_::_::own) ?_
 refine Yt (Yc [.agg #[J (p),J ((2*(u4.length:Nat))+cr),v18],J ((jv:Int)),J ((iu:Int)),J ((c0:Int)),J ((crF cr cd ((Az cr cd).getD (v) [])).getD (t) 0)] OW (by exact(Ms hs19 (N:=smN cr cd) (by omega) (h28) (by omega) (by omega) (by omega) (by omega) (by omega) (by have:=hcg;omega)))) ?_
 rintro _ _ ⟨rfl,rfl⟩
 refine Zn (GE.blockN (Zt (Zr ?_)))
 refine Zm rfl (Zd (OD.addI rfl rfl rfl (by first | omega | (simp only[List.length_set,List.length_replicate];omega))) rfl ?_)
 exact Za rfl (Zn (Yg (t+1,(xs.set ((jv*(smN cr cd)+iu)*(smN cr cd)+c0) (((crF cr cd ((Az cr cd).getD (v) [])).getD (t) 0)%p)).set ((iu*(smN cr cd)+jv)*(smN cr cd)+c0) ((0 - ((crF cr cd ((Az cr cd).getD (v) [])).getD (t) 0))%p)) (⟨by omega,SpI.co hS hT3 hu1 (by omega) (by omega) hc28 hiu hjv hc0 rfl⟩) [1,1,1,1,0,0,0,0,0,0,0,0,0] 0))
 replace hc31:=of_decide_eq_false hc31
 refine GC.exit (Zp (Zp (GE.hit (Zt (GC.exit (Zp (GE.hit (Zt (Zr ?_)))))))))
 refine Zm rfl (Zd Qp rfl ?_)
 exact Za rfl (Zn (Yg (v+1,xs) (⟨by omega,SpI.coE hS ((show t=cr.toNat by omega) ▸ hT3) hu1 (by omega) hc28⟩) [2,2,2,2,2,2,2,2,2,2,2] 2))
 refine Zk (Zt (Zs (Ya [(2,_),(4,_),(5,_),(6,_),(7,_),(8,_),(9,_),(10,_),(11,_),(12,_),(15,_),(16,_),(17,_)] ?_)))
 refine Wp [Z0 108 (.agg #[J (cr),vcd]),Z0 109 v3,Z0 110 (((u4++u9).getD (u) undef)),Z0 111 (((u4++u9).getD (v) undef)),⟨112,[(2,110),(3,111)],[],[],[4],fun ds=>((ds.getD 0 []).getD 0 undef),fun ds=>Ab ((ds.getD 0 []).getD 0 undef),fun ds=>[ints 3 ((ds.getD 0 []).getD 0 undef) (Af ((Az cr cd).getD (u) []) 1 ((Az cr cd).getD (v) []))]⟩,⟨113,[(0,108),(1,109),(4,112)],[4],[],[4],fun _=>J (l7I cr (rSt cr cd) (Af ((Az cr cd).getD (u) []) 1 ((Az cr cd).getD (v) []))),fun _=>True,fun _=>[]⟩] (Zc (fun _ _ _=>Zq (Qa An 11 [_,_]) rfl) (Yv (Yv (Yv (Zc (fun _ _ _=>AR.plain (OG.imp (Yc [((u4++u9).getD (u) undef),J (1),((u4++u9).getD (v) undef)] LI (by exact(Eg (hs11.get (by omega)) (Cq (fun q hq=>Ent.manyInts (i:=9) (k:=q) rfl ⟨by omega,hq⟩) (i:=7) rfl (by omega) (by omega) (by omega)) (hs11.get (by omega)) (Cq (fun q hq=>Ent.manyInts (i:=9) (k:=q) rfl ⟨by omega,hq⟩) (i:=7) rfl (by omega) (by omega) (by omega)) (by omega) (by omega)))) (by rintro v32 _ ⟨_,rfl,hs33,rfl⟩;exact⟨[v32],rfl,hs33,rfl⟩)) rfl) (Zc (fun θ _ ⟨_,_,h4d,_⟩=>Zq (Yc [.agg #[J (cr),vcd],v3,((θ 4).getD 0 undef)] Oa (by exact(D6 scd (Ent.drop 13 ecd.app) hs5 (Ent.len (Ent.lst (i:=9) rfl) hs7) (fun k hk=>Ent.manyInts (i:=10) (k:=k) rfl ⟨by rw[hs7];exact hk,hk⟩) hs7 hs6 h4d (Ei 0) (hcr) (by omega) (fun k hk=>hle k hk) (Lr hS (.inl rfl) hrx hry) (by omega)))) rfl) As.nil)))))) ?_
 intro θ hall
 obtain⟨_,_,_,_,h4a,_,_⟩:=hall
 refine Yb [(2,_),(4,_),(5,_),(6,_),(7,_),(8,_),(9,_),(10,_),(11,_),(12,_),(15,_),(16,_),(17,_),(113,J (l7I cr (rSt cr cd) (Af ((Az cr cd).getD (u) []) 1 ((Az cr cd).getD (v) []))))] (ints 3 ((θ 4).getD 0 undef) (Af ((Az cr cd).getD (u) []) 1 ((Az cr cd).getD (v) []))::_::_) ?_
 have hs34:Ab ((θ 4).getD 0 undef):=h4a
 clear h4a
 generalize ((θ 4).getD 0 undef)=v35 at *
 show G _ _ _ [_] _ _ _ _
 refine Za rfl (Zn (Zt (Zs (Zr (Zm rfl (Zd (OD.geq rfl rfl rfl) rfl ?_))))))
 refine Zn (Zt ?_)
 refine GC.cond rfl (fun hc36=>?_) (fun hc36=>?_)
 replace hc36:=of_decide_eq_true hc36
 obtain⟨z,hz⟩:∃ z:Nat,l7I cr (rSt cr cd) (Af ((Az cr cd).getD (u) []) 1 ((Az cr cd).getD (v) []))=(z:Int):=⟨_,(Int.toNat_of_nonneg (by omega)).symm⟩
 have hN:=hT2.N hS hu1 (show v<u by omega) hc28 hiu hjv hz (w:=nF cr cd ((Az cr cd).getD (u) []) ((Az cr cd).getD (v) [])) rfl
 have hzN:=hN.2
 have hnb:=DD hS hrx hry
 refine Ya [(2,_),(4,_),(5,_),(6,_),(7,_),(8,_),(9,_),(10,_),(11,_),(12,_),(15,_),(16,_),(17,_),(20,_)] ?_
 refine Wp [Z0 116 (.agg #[J (p),J ((2*(u4.length:Nat))+cr),v18]),Z0 117 (J ((iu:Int))),Z0 118 (J ((jv:Int))),Z0 119 (J ((z:Int))),Z0 120 (Pg g13 0),Z0 121 (((u4++u9).getD (u) undef)),Z0 122 (((u4++u9).getD (v) undef)),Z1 123 [(4,120),(5,121),(6,122)] (J (nF cr cd ((Az cr cd).getD (u) []) ((Az cr cd).getD (v) [])))] (Zc (fun _ _ _=>Zq (Qa Bj 3 [_,_,_]) rfl) (Yv (Yv (Zc (fun _ _ _=>Zq (OD.eqv (OD.move rfl rfl) (congrArg (Value.int .i64) ((hz):(l7I cr (rSt cr cd) (Af ((Az cr cd).getD (u) []) 1 ((Az cr cd).getD (v) [])):Int)=((z:Int))))) rfl) (Yv (Yv (Yv (Zc (fun _ _ _=>Zq (Yc [Pg g13 0,((u4++u9).getD (u) undef),((u4++u9).getD (v) undef)] E7 (by exact(Spec.atIdx2 (i:=5) (j:=5) rfl rfl (Ue (CQ ((Az cr cd).getD (u) []) ((Az cr cd).getD (v) [])+1) scd (Ent.drop 11 ecd.app) hs5 (Ent.len (Ent.lst (i:=7) rfl) hs7) (fun k hk=>Ent.manyInts (i:=8) (k:=k) rfl ⟨by rw[hs7];exact hk,hk⟩) hs7 hs6 hs16 hs17 (hs11.get (by omega)) (Cq (fun q hq=>Ent.manyInts (i:=8) (k:=q) rfl ⟨by omega,hq⟩) (i:=6) rfl (by omega) (by omega) (by omega)) (hs11.get (by omega)) (Cq (fun q hq=>Ent.manyInts (i:=8) (k:=q) rfl ⟨by omega,hq⟩) (i:=6) rfl (by omega) (by omega) (by omega)) (hS) (hrx) (hry) (by omega))))) rfl) As.nil)))))))) ?_
 intro θ _
 refine Yb [(2,_),(4,_),(5,_),(6,_),(7,_),(8,_),(9,_),(10,_),(11,_),(12,_),(15,_),(116,.agg #[J (p),J ((2*(u4.length:Nat))+cr),v18]),(117,J ((iu:Int))),(118,J ((jv:Int))),(119,J ((z:Int))),(123,J (nF cr cd ((Az cr cd).getD (u) []) ((Az cr cd).getD (v) [])))] (_::_) ?_
 show G _ _ _ [_] _ _ _ _
 refine Yp [4] (_::_::_::_::_::_::_::_::_::_::_::_::_::own) ?_
 refine Yt (Yc [.agg #[J (p),J ((2*(u4.length:Nat))+cr),v18],J ((iu:Int)),J ((jv:Int)),J ((z:Int)),J (nF cr cd ((Az cr cd).getD (u) []) ((Az cr cd).getD (v) []))] OW (by exact(Ms hs19 (N:=smN cr cd) (by omega) (h28) (by omega) (by omega) (by omega) (by omega) (by omega) (by have:=hnb;omega)))) ?_
 rintro _ _ ⟨rfl,rfl⟩
 refine Zn (GE.blockN (Zt (Zr ?_)))
 refine Zm rfl (Zd (OD.addI rfl rfl rfl (by first | omega | (simp only[List.length_set,List.length_replicate];omega))) rfl ?_)
 exact Za rfl (Zn (Yg (v+1,(us.set ((iu*(smN cr cd)+jv)*(smN cr cd)+z) ((nF cr cd ((Az cr cd).getD (u) []) ((Az cr cd).getD (v) []))%p)).set ((jv*(smN cr cd)+iu)*(smN cr cd)+z) ((0 - (nF cr cd ((Az cr cd).getD (u) []) ((Az cr cd).getD (v) [])))%p)) (⟨by omega,hN.1⟩) [3,3,0,2,2,2,2,2,2,2,2] 2))
 replace hc36:=of_decide_eq_false hc36
 refine Zk (GE.blockN (Zt (Zr ?_)))
 refine Zm rfl (Zd Qp rfl ?_)
 exact Za rfl (Zn (Yg (v+1,us) (⟨by omega,hT2.no hS hu1 (by omega) hc28 (by omega)⟩) [2,2,2,2,2,2,2,2,2,2,2] 2))
 replace hc25:=of_decide_eq_false hc25
 refine GC.exit (Zp (Zp (GE.hit (GE.blockN (Zt (Zr ?_))))))
 refine Zm rfl (Zd Qp rfl ?_)
 exact Za rfl (Zn (Yg (u+1,us) (⟨by omega,SpI.up hS ((show v=u by omega) ▸ hT2) (by omega)⟩) [1,1,1,1,1,1,1,1,1,1] 1))
 replace hc21:=of_decide_eq_false hc21
 refine GC.exit (Zp (Zp (GE.hit (Zt (Zs (Zr ?_))))))
 refine Zd (Qa Bj 0 [_,_,_]) rfl ?_
 refine Yu Bj [J (p),J ((2*(u4.length:Nat))+cr),v18] 8 (Ad rfl (Ad rfl (Ad (Ab.one hs19) rfl))) ?_
 refine Zn (Zt (GC.ret ?_))
 exact GE.body [1] 9 (AZ rfl (RVs.cons (Ag Bj rfl (i:=8) rfl rfl) RVs.nil) rfl) rfl (⟨v18,congr (congrArg (fun a0 a1=>(.agg #[J (a0),J (a1),v18]:Value)) (rfl)) ((by omega:((2*(u4.length:Nat))+cr:Int)=(smN cr cd:Nat))),hs19,congrArg (fun l0=>ints 3 v18 l0::own) ((SpI.end_ ((show u=2*smM cr cd by omega) ▸ hT0):ys=EG cr cd p))⟩)
theorem Ge {W:World}{own:List Asn}{cr:Int}{vcd:Value}{cd:List Int}{p:Int}(scd:Ab vcd)(ecd:Ent own fun w=>Ints w vcd cd)(hl0:cd.length≤1073741824):Spec Tryz.prog 23 [.agg #[J (cr),vcd],J (p)] W own (fun v ow=>∃ (r2:Value),v = .tuple #[.agg #[J (Cn cr cd p),J (Bo cr cd p),r2],.bool (Bq cr cd p)]∧Ab r2∧ow=ints 3 r2 (DJ cr cd p)::own):=by
 refine Spec.enter Tryz.f23 _ Tryz.func23 rfl (n:=28) rfl rfl ?_
 refine Zs (Zr (Yt (OG.box (cs:=[J (cr),vcd]) rfl rfl rfl) ?_))
 rintro _ _ ⟨g1,rfl,rfl⟩
 refine Yt (OG.alloc rfl Bj (zs:=[J (0),J (0),.slice none 0 0]) rfl) ?_
 rintro _ _ ⟨g2,rfl,rfl⟩
 refine Za rfl (Zn (Zt (Zs (Zs ?_))))
 rcases Bool.eq_false_or_eq_true ((Ax cr cd).isSome) with hx3 | hx3
 rcases Bool.eq_false_or_eq_true (AJ p) with hx4 | hx4
 rcases Bool.eq_false_or_eq_true (decide (smN cr cd≤28)) with hx5 | hx5
 have hS:(Ax cr cd).isSome=true:=hx3
 have hcr:=(AB hS).1
 have hcd:=(AB hS).2
 have hMl:smM cr cd=(rSt cr cd).length:=rfl
 have hNl:smN cr cd=2*smM cr cd+cr.toNat:=rfl
 have hr4:=(rtOk hS).rk
 have hlo:=(rtOk hS).lo
 have hRf:(rSt cr cd).length≤30:=by have h1:=(rtOk hS).slen;have h2:=(rtOk hS).few;omega
 have hPr:AJ p=true:=hx4
 have h28:=of_decide_eq_true hx5
 have hOk:Bq cr cd p=true:=by rw[Bq,hx3,hx4,hx5] <;> rfl
 refine Ya [(1,_),(2,_),(4,_)] ?_
 refine Wp [Z0 6 (.agg #[J (cr),vcd]),Z1 7 [(0,6)] (.bool true),Z1 8 [(1,7)] (.bool false),Z1 9 [(2,8)] (.bool false),Z1 10 [(3,9)] (J (p)),Z1 11 [(3,9),(4,10)] (.bool true),Z1 12 [(3,9),(5,11)] (.bool false),Z1 13 [(3,9),(6,12)] (.bool false),Z1 14 [(7,13)] (.bool false),Z1 15 [(8,14)] (.agg #[J (cr),vcd]),⟨16,[(8,14),(9,15)],[],[],[10],fun ds=>((ds.getD 0 []).getD 0 undef),fun ds=>Ab ((ds.getD 0 []).getD 0 undef)∧AllS (usOf ((ds.getD 0 []).getD 1 undef))∧(usOf ((ds.getD 0 []).getD 1 undef)).length=(rSt cr cd).length,fun ds=>[lst 22 ((ds.getD 0 []).getD 0 undef) (usOf ((ds.getD 0 []).getD 1 undef)),many (ints 3) (usOf ((ds.getD 0 []).getD 1 undef)) (rSt cr cd)]⟩,⟨17,[(8,14),(10,16)],[10],[],[10],fun _=>J ((((rSt cr cd).length:Nat):Int)),fun _=>True,fun _=>[]⟩,⟨18,[(8,14),(11,17)],[10],[],[10],fun _=>J (2*(((rSt cr cd).length:Nat):Int)),fun _=>True,fun _=>[]⟩,Z1 19 [(8,14)] (Pg g1 0),Z1 20 [(8,14),(13,19)] (J (cr)),⟨21,[(8,14),(12,18),(14,20)],[10],[],[10],fun _=>J ((2*(((rSt cr cd).length:Nat):Int))+cr),fun _=>True,fun _=>[]⟩,⟨22,[(8,14),(15,21)],[10],[],[10],fun _ => .bool false,fun _=>True,fun _=>[]⟩,⟨23,[(8,14),(16,22)],[10],[],[10],fun _ => .bool false,fun _=>True,fun _=>[]⟩] (Zc (fun _ _ _=>Zq (Qa An 1 [_,_]) rfl) (Zc (fun _ R _=>Zq (OG.imp (K':=fun v ow=>v = .bool true∧ow=box g2 43 [J (0),J (0),.slice none 0 0]::box g1 27 [J (cr),vcd]::own++R) (Yc [.agg #[J (cr),vcd]] QK (by exact(CB scd (Ent.drop 2 ecd.app) (hl0)))) (by rintro _ _ ⟨rfl,rfl⟩;exact⟨congrArg Value.bool (hx3),rfl⟩)) rfl) (Zc (fun _ _ _=>Zq (OD.not rfl rfl) rfl) (Yv (Yw (Zc (fun _ R _=>Zo (OG.imp (K':=fun v ow=>v = .bool true∧ow=box g2 43 [J (0),J (0),.slice none 0 0]::box g1 27 [J (cr),vcd]::own++R) (Yc [J (p)] K6 (by exact Cr)) (by rintro _ _ ⟨rfl,rfl⟩;exact⟨congrArg Value.bool (hx4),rfl⟩)) rfl rfl rfl rfl trivial rfl) (Zc (fun _ _ _=>Zo (OD.not rfl rfl) rfl rfl rfl rfl trivial rfl) (Zc (fun _ _ _=>Zq (OD.pickF rfl rfl rfl) rfl) (Yv (Zc (fun _ _ _=>Zo (Qa An 1 [_,_]) rfl rfl rfl rfl trivial rfl) (Zc (fun _ _ _=>AR.on (OG.imp (Yc [.agg #[J (cr),vcd]] Q6 (by exact(Fo scd (Ent.drop 2 ecd.app) (hcr) (hcd) (hS)))) (by rintro v6 _ ⟨_,u7,rfl,hs8,hs9,hs10,rfl⟩;exact⟨[v6,.agg u7.toArray],rfl,⟨hs8,hs9,hs10⟩,rfl⟩)) rfl rfl rfl) (Zc (fun θ _ ⟨_,h10d,_⟩=>Zo (OD.eqv (Qn AM (Ent.lst (i:=0) rfl)) (congrArg (Value.int .i64) ((by have h9:(usOf ((θ 10).getD 1 undef)).length=(rSt cr cd).length:=h10d.2.2;omega):(((usOf ((θ 10).getD 1 undef)).length:Nat):Int)=((((rSt cr cd).length:Nat):Int))))) rfl rfl rfl rfl trivial rfl) (Zc (fun _ _ _=>Zo Qm rfl rfl rfl rfl trivial rfl) (Zc (fun _ _ _=>Zo (Qf Aq) rfl rfl rfl rfl trivial rfl) (Zc (fun _ _ _=>Zo (Ql Ak 1) rfl rfl rfl rfl trivial rfl) (Zc (fun _ _ _=>Zo Qp rfl rfl rfl rfl trivial rfl) (Zc (fun _ _ _=>Zo (OD.eqv (OD.gtr rfl rfl rfl) (congrArg Value.bool ((decide_eq_false (by omega)):_=false))) rfl rfl rfl rfl trivial rfl) (Zc (fun _ _ _=>Zq (OD.pickF rfl rfl rfl) rfl) As.nil)))))))))))))))))) ?_
 intro θ hall
 obtain⟨_,_,_,_,_,_,_,_,_,_,h10a,_,_,_,_,_,_,_,_⟩:=hall
 refine Yb [(1,_),(2,_),(4,_),(23,.bool false)] (lst 22 ((θ 10).getD 0 undef) (usOf ((θ 10).getD 1 undef))::many (ints 3) (usOf ((θ 10).getD 1 undef)) (rSt cr cd)::_::_) ?_
 have hs11:Ab ((θ 10).getD 0 undef):=h10a.1
 have hs12:AllS (usOf ((θ 10).getD 1 undef)):=h10a.2.1
 have hs13:(usOf ((θ 10).getD 1 undef)).length=(rSt cr cd).length:=h10a.2.2
 clear h10a
 generalize ((θ 10).getD 0 undef)=v14 at *
 generalize (usOf ((θ 10).getD 1 undef))=u15 at *
 show G _ _ _ [] _ _ _ _
 refine Zn (Zt (GC.condF rfl (Zk (Zt (Zs (Zr ?_))))))
 refine Zd (Qa An 3 [_,_]) rfl ?_
 refine Zm rfl (Yt (Yc [.agg #[J (cr),vcd],J (p)] dA (by exact(RY scd (Ent.drop 4 ecd) (hS) (hPr) (h28)))) ?_)
 rintro _ _ ⟨v16,rfl,hs17,rfl⟩
 refine Yu Bj [J (p),J ((smN cr cd:Nat)),v16] 3 (Ad rfl (Ad rfl (Ad (Ab.one hs17) rfl))) ?_
 refine Za rfl (Zn (Zt (GC.ret ?_)))
 exact GE.body [0] 4 (AZ rfl (RVs.cons (Ag Bj rfl (i:=3) rfl rfl) (RVs.cons (AD rfl) RVs.nil)) rfl) rfl (⟨v16,congr (congr (congrArg (fun a0 a1 a3=>(.tuple #[.agg #[J (a0),J (a1),v16],.bool (a3)]:Value)) ((by rw[Cn,hOk] <;> rfl:(p:Int)=Cn cr cd p))) ((by rw[Bo,hOk] <;> rfl:((smN cr cd:Nat):Int)=Bo cr cd p))) ((hOk.symm:(true:Bool)=Bq cr cd p)),hs17,congrArg (fun l0=>ints 3 v16 l0::own) ((by rw[DJ,hOk] <;> rfl:EG cr cd p=DJ cr cd p))⟩)
 have hS:(Ax cr cd).isSome=true:=hx3
 have hcr:=(AB hS).1
 have hcd:=(AB hS).2
 have hMl:smM cr cd=(rSt cr cd).length:=rfl
 have hNl:smN cr cd=2*smM cr cd+cr.toNat:=rfl
 have hr4:=(rtOk hS).rk
 have hlo:=(rtOk hS).lo
 have hRf:(rSt cr cd).length≤30:=by have h1:=(rtOk hS).slen;have h2:=(rtOk hS).few;omega
 have hPr:AJ p=true:=hx4
 have h28:=of_decide_eq_false hx5
 have hOk:Bq cr cd p=false:=by rw[Bq,hx3,hx4,hx5] <;> rfl
 refine Ya [(1,_),(2,_),(4,_)] ?_
 refine Wp [Z0 6 (.agg #[J (cr),vcd]),Z1 7 [(0,6)] (.bool true),Z1 8 [(1,7)] (.bool false),Z1 9 [(2,8)] (.bool false),Z1 10 [(3,9)] (J (p)),Z1 11 [(3,9),(4,10)] (.bool true),Z1 12 [(3,9),(5,11)] (.bool false),Z1 13 [(3,9),(6,12)] (.bool false),Z1 14 [(7,13)] (.bool false),Z1 15 [(8,14)] (.agg #[J (cr),vcd]),⟨16,[(8,14),(9,15)],[],[],[10],fun ds=>((ds.getD 0 []).getD 0 undef),fun ds=>Ab ((ds.getD 0 []).getD 0 undef)∧AllS (usOf ((ds.getD 0 []).getD 1 undef))∧(usOf ((ds.getD 0 []).getD 1 undef)).length=(rSt cr cd).length,fun ds=>[lst 22 ((ds.getD 0 []).getD 0 undef) (usOf ((ds.getD 0 []).getD 1 undef)),many (ints 3) (usOf ((ds.getD 0 []).getD 1 undef)) (rSt cr cd)]⟩,⟨17,[(8,14),(10,16)],[10],[],[10],fun _=>J ((((rSt cr cd).length:Nat):Int)),fun _=>True,fun _=>[]⟩,⟨18,[(8,14),(11,17)],[10],[],[10],fun _=>J (2*(((rSt cr cd).length:Nat):Int)),fun _=>True,fun _=>[]⟩,Z1 19 [(8,14)] (Pg g1 0),Z1 20 [(8,14),(13,19)] (J (cr)),⟨21,[(8,14),(12,18),(14,20)],[10],[],[10],fun _=>J ((2*(((rSt cr cd).length:Nat):Int))+cr),fun _=>True,fun _=>[]⟩,⟨22,[(8,14),(15,21)],[10],[],[10],fun _ => .bool true,fun _=>True,fun _=>[]⟩,⟨23,[(8,14),(16,22)],[10],[],[10],fun _ => .bool true,fun _=>True,fun _=>[]⟩] (Zc (fun _ _ _=>Zq (Qa An 1 [_,_]) rfl) (Zc (fun _ R _=>Zq (OG.imp (K':=fun v ow=>v = .bool true∧ow=box g2 43 [J (0),J (0),.slice none 0 0]::box g1 27 [J (cr),vcd]::own++R) (Yc [.agg #[J (cr),vcd]] QK (by exact(CB scd (Ent.drop 2 ecd.app) (hl0)))) (by rintro _ _ ⟨rfl,rfl⟩;exact⟨congrArg Value.bool (hx3),rfl⟩)) rfl) (Zc (fun _ _ _=>Zq (OD.not rfl rfl) rfl) (Yv (Yw (Zc (fun _ R _=>Zo (OG.imp (K':=fun v ow=>v = .bool true∧ow=box g2 43 [J (0),J (0),.slice none 0 0]::box g1 27 [J (cr),vcd]::own++R) (Yc [J (p)] K6 (by exact Cr)) (by rintro _ _ ⟨rfl,rfl⟩;exact⟨congrArg Value.bool (hx4),rfl⟩)) rfl rfl rfl rfl trivial rfl) (Zc (fun _ _ _=>Zo (OD.not rfl rfl) rfl rfl rfl rfl trivial rfl) (Zc (fun _ _ _=>Zq (OD.pickF rfl rfl rfl) rfl) (Yv (Zc (fun _ _ _=>Zo (Qa An 1 [_,_]) rfl rfl rfl rfl trivial rfl) (Zc (fun _ _ _=>AR.on (OG.imp (Yc [.agg #[J (cr),vcd]] Q6 (by exact(Fo scd (Ent.drop 2 ecd.app) (hcr) (hcd) (hS)))) (by rintro v18 _ ⟨_,u19,rfl,hs20,hs21,hs22,rfl⟩;exact⟨[v18,.agg u19.toArray],rfl,⟨hs20,hs21,hs22⟩,rfl⟩)) rfl rfl rfl) (Zc (fun θ _ ⟨_,h10d,_⟩=>Zo (OD.eqv (Qn AM (Ent.lst (i:=0) rfl)) (congrArg (Value.int .i64) ((by have h9:(usOf ((θ 10).getD 1 undef)).length=(rSt cr cd).length:=h10d.2.2;omega):(((usOf ((θ 10).getD 1 undef)).length:Nat):Int)=((((rSt cr cd).length:Nat):Int))))) rfl rfl rfl rfl trivial rfl) (Zc (fun _ _ _=>Zo Qm rfl rfl rfl rfl trivial rfl) (Zc (fun _ _ _=>Zo (Qf Aq) rfl rfl rfl rfl trivial rfl) (Zc (fun _ _ _=>Zo (Ql Ak 1) rfl rfl rfl rfl trivial rfl) (Zc (fun _ _ _=>Zo Qp rfl rfl rfl rfl trivial rfl) (Zc (fun _ _ _=>Zo (OD.eqv (OD.gtr rfl rfl rfl) (congrArg Value.bool ((decide_eq_true (by omega)):_=true))) rfl rfl rfl rfl trivial rfl) (Zc (fun _ _ _=>Zq (OD.pickF rfl rfl rfl) rfl) As.nil)))))))))))))))))) ?_
 intro θ hall
 obtain⟨_,_,_,_,_,_,_,_,_,_,h10a,_,_,_,_,_,_,_,_⟩:=hall
 refine Yb [(1,_),(2,_),(4,_),(23,.bool true)] (lst 22 ((θ 10).getD 0 undef) (usOf ((θ 10).getD 1 undef))::many (ints 3) (usOf ((θ 10).getD 1 undef)) (rSt cr cd)::_::_) ?_
 have hs23:Ab ((θ 10).getD 0 undef):=h10a.1
 have hs24:AllS (usOf ((θ 10).getD 1 undef)):=h10a.2.1
 have hs25:(usOf ((θ 10).getD 1 undef)).length=(rSt cr cd).length:=h10a.2.2
 clear h10a
 generalize ((θ 10).getD 0 undef)=v26 at *
 generalize (usOf ((θ 10).getD 1 undef))=u27 at *
 show G _ _ _ [] _ _ _ _
 refine Zn (Zt (GC.condT rfl (Zs (Zr ?_))))
 refine Zd (OD.build (idx:=[]) (xs:=[]) (vs:=[]) (cs:=[]) (zs:=[J (0),J (0),.slice none 0 0]) (r:=[J (0),J (0),.slice none 0 0]) rfl Bj rfl rfl rfl trivial rfl) rfl ?_
 refine Yu Bj [J (0),J (0),.slice none 0 0] 2 rfl ?_
 refine Za rfl (Zn (Zt (GC.ret (GE.passR ?_))))
 refine GE.nilInts 3 ?_
 exact GE.body [0] 4 (AZ rfl (RVs.cons (Ag Bj rfl (i:=3) rfl rfl) (RVs.cons (AD rfl) RVs.nil)) rfl) rfl (⟨(.slice none 0 0),congr (congr (congrArg (fun a0 a1 a3=>(.tuple #[.agg #[J (a0),J (a1),(.slice none 0 0)],.bool (a3)]:Value)) ((by rw[Cn,hOk] <;> rfl:(0:Int)=Cn cr cd p))) ((by rw[Bo,hOk] <;> rfl:(0:Int)=Bo cr cd p))) ((hOk.symm:(false:Bool)=Bq cr cd p)),Ab.nil,congrArg (fun l0=>ints 3 (.slice none 0 0) l0::own) ((by rw[DJ,hOk] <;> rfl : []=DJ cr cd p))⟩)
 have hS:(Ax cr cd).isSome=true:=hx3
 have hcr:=(AB hS).1
 have hcd:=(AB hS).2
 have hMl:smM cr cd=(rSt cr cd).length:=rfl
 have hNl:smN cr cd=2*smM cr cd+cr.toNat:=rfl
 have hr4:=(rtOk hS).rk
 have hlo:=(rtOk hS).lo
 have hRf:(rSt cr cd).length≤30:=by have h1:=(rtOk hS).slen;have h2:=(rtOk hS).few;omega
 have hOk:Bq cr cd p=false:=by simp[Bq,hx3,hx4]
 refine Ya [(1,_),(2,_),(4,_)] ?_
 refine Wp [Z0 6 (.agg #[J (cr),vcd]),Z1 7 [(0,6)] (.bool true),Z1 8 [(1,7)] (.bool false),Z1 9 [(2,8)] (.bool false),Z1 10 [(3,9)] (J (p)),Z1 11 [(3,9),(4,10)] (.bool false),Z1 12 [(3,9),(5,11)] (.bool true),Z1 13 [(3,9),(6,12)] (.bool true),Z1 14 [(7,13)] (.bool true),Z1 15 [(8,14)] undef,Z1 16 [(8,14),(9,15)] undef,Z1 17 [(8,14),(10,16)] undef,Z1 18 [(8,14),(11,17)] undef,Z1 19 [(8,14)] undef,Z1 20 [(8,14),(13,19)] undef,Z1 21 [(8,14),(12,18),(14,20)] undef,Z1 22 [(8,14),(15,21)] undef,Z1 23 [(8,14),(16,22)] (.bool true)] (Zc (fun _ _ _=>Zq (Qa An 1 [_,_]) rfl) (Zc (fun _ R _=>Zq (OG.imp (K':=fun v ow=>v = .bool true∧ow=box g2 43 [J (0),J (0),.slice none 0 0]::box g1 27 [J (cr),vcd]::own++R) (Yc [.agg #[J (cr),vcd]] QK (by exact(CB scd (Ent.drop 2 ecd.app) (hl0)))) (by rintro _ _ ⟨rfl,rfl⟩;exact⟨congrArg Value.bool (hx3),rfl⟩)) rfl) (Zc (fun _ _ _=>Zq (OD.not rfl rfl) rfl) (Yv (Yw (Zc (fun _ R _=>Zo (OG.imp (K':=fun v ow=>v = .bool false∧ow=box g2 43 [J (0),J (0),.slice none 0 0]::box g1 27 [J (cr),vcd]::own++R) (Yc [J (p)] K6 (by exact Cr)) (by rintro _ _ ⟨rfl,rfl⟩;exact⟨congrArg Value.bool (hx4),rfl⟩)) rfl rfl rfl rfl trivial rfl) (Zc (fun _ _ _=>Zo (OD.not rfl rfl) rfl rfl rfl rfl trivial rfl) (Zc (fun _ _ _=>Zq (OD.pickF rfl rfl rfl) rfl) (Yv (Yo (Yo (Yo (Yo (Yo (Yo (Yo (Yo (Zc (fun _ _ _=>Zq (OD.pickT rfl rfl rfl) rfl) As.nil)))))))))))))))))) ?_
 intro θ _
 refine Yb [(1,_),(2,_),(4,_),(23,.bool true)] (_::_) ?_
 show G _ _ _ [] _ _ _ _
 refine Zn (Zt (GC.condT rfl (Zs (Zr ?_))))
 refine Zd (OD.build (idx:=[]) (xs:=[]) (vs:=[]) (cs:=[]) (zs:=[J (0),J (0),.slice none 0 0]) (r:=[J (0),J (0),.slice none 0 0]) rfl Bj rfl rfl rfl trivial rfl) rfl ?_
 refine Yu Bj [J (0),J (0),.slice none 0 0] 0 rfl ?_
 refine Za rfl (Zn (Zt (GC.ret (GE.passR ?_))))
 refine GE.nilInts 3 ?_
 exact GE.body [0] 2 (AZ rfl (RVs.cons (Ag Bj rfl (i:=1) rfl rfl) (RVs.cons (AD rfl) RVs.nil)) rfl) rfl (⟨(.slice none 0 0),congr (congr (congrArg (fun a0 a1 a3=>(.tuple #[.agg #[J (a0),J (a1),(.slice none 0 0)],.bool (a3)]:Value)) ((by rw[Cn,hOk] <;> rfl:(0:Int)=Cn cr cd p))) ((by rw[Bo,hOk] <;> rfl:(0:Int)=Bo cr cd p))) ((hOk.symm:(false:Bool)=Bq cr cd p)),Ab.nil,congrArg (fun l0=>ints 3 (.slice none 0 0) l0::own) ((by rw[DJ,hOk] <;> rfl : []=DJ cr cd p))⟩)
 have hOk:Bq cr cd p=false:=by simp[Bq,hx3]
 refine Ya [(1,_),(2,_),(4,_)] ?_
 refine Wp [Z0 6 (.agg #[J (cr),vcd]),Z1 7 [(0,6)] (.bool false),Z1 8 [(1,7)] (.bool true),Z1 9 [(2,8)] (.bool true),Z1 10 [(3,9)] undef,Z1 11 [(3,9),(4,10)] undef,Z1 12 [(3,9),(5,11)] undef,Z1 13 [(3,9),(6,12)] (.bool true),Z1 14 [(7,13)] (.bool true),Z1 15 [(8,14)] undef,Z1 16 [(8,14),(9,15)] undef,Z1 17 [(8,14),(10,16)] undef,Z1 18 [(8,14),(11,17)] undef,Z1 19 [(8,14)] undef,Z1 20 [(8,14),(13,19)] undef,Z1 21 [(8,14),(12,18),(14,20)] undef,Z1 22 [(8,14),(15,21)] undef,Z1 23 [(8,14),(16,22)] (.bool true)] (Zc (fun _ _ _=>Zq (Qa An 1 [_,_]) rfl) (Zc (fun _ R _=>Zq (OG.imp (K':=fun v ow=>v = .bool false∧ow=box g2 43 [J (0),J (0),.slice none 0 0]::box g1 27 [J (cr),vcd]::own++R) (Yc [.agg #[J (cr),vcd]] QK (by exact(CB scd (Ent.drop 2 ecd.app) (hl0)))) (by rintro _ _ ⟨rfl,rfl⟩;exact⟨congrArg Value.bool (hx3),rfl⟩)) rfl) (Zc (fun _ _ _=>Zq (OD.not rfl rfl) rfl) (Yv (Yo (Yo (Yo (Zc (fun _ _ _=>Zq (OD.pickT rfl rfl rfl) rfl) (Yv (Yo (Yo (Yo (Yo (Yo (Yo (Yo (Yo (Zc (fun _ _ _=>Zq (OD.pickT rfl rfl rfl) rfl) As.nil)))))))))))))))))) ?_
 intro θ _
 refine Yb [(1,_),(2,_),(4,_),(23,.bool true)] (_::_) ?_
 show G _ _ _ [] _ _ _ _
 refine Zn (Zt (GC.condT rfl (Zs (Zr ?_))))
 refine Zd (OD.build (idx:=[]) (xs:=[]) (vs:=[]) (cs:=[]) (zs:=[J (0),J (0),.slice none 0 0]) (r:=[J (0),J (0),.slice none 0 0]) rfl Bj rfl rfl rfl trivial rfl) rfl ?_
 refine Yu Bj [J (0),J (0),.slice none 0 0] 0 rfl ?_
 refine Za rfl (Zn (Zt (GC.ret (GE.passR ?_))))
 refine GE.nilInts 3 ?_
 exact GE.body [0] 2 (AZ rfl (RVs.cons (Ag Bj rfl (i:=1) rfl rfl) (RVs.cons (AD rfl) RVs.nil)) rfl) rfl (⟨(.slice none 0 0),congr (congr (congrArg (fun a0 a1 a3=>(.tuple #[.agg #[J (a0),J (a1),(.slice none 0 0)],.bool (a3)]:Value)) ((by rw[Cn,hOk] <;> rfl:(0:Int)=Cn cr cd p))) ((by rw[Bo,hOk] <;> rfl:(0:Int)=Bo cr cd p))) ((hOk.symm:(false:Bool)=Bq cr cd p)),Ab.nil,congrArg (fun l0=>ints 3 (.slice none 0 0) l0::own) ((by rw[DJ,hOk] <;> rfl : []=DJ cr cd p))⟩)
end Go.Proofs.YtbmnnbglipkidaaGreatDoor
