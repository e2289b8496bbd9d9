/-
  Tables of simple algebras by the second text: contracts by walks.
-/
import Derived.Test.YtbmnnbglipkidaaGreatDoorFct
import Derived.Test.YtbmnnbglipkidaaGreatDoorWCnS
import Derived.Test.YtbmnnbglipkidaaGreatDoorZ19
import Derived.Test.YtbmnnbglipkidaaGreatDoorSmw
import Derived.Test.YtbmnnbglipkidaaGreatDoorWCor
namespace Go.Proofs.YtbmnnbglipkidaaGreatDoor
set_option maxRecDepth 100000
set_option maxHeartbeats 4000000
set_option linter.unusedVariables false
set_option linter.unusedSimpArgs false
open Go.RowKit
theorem ent59:∀ us w,(callFunc 59 us).run Tryz.prog w = .ok (.enter 59 us) w:=fun us w=>by kernel_rfl
theorem ent60:∀ us w,(callFunc 60 us).run Tryz.prog w = .ok (.enter 60 us) w:=fun us w=>by kernel_rfl
theorem ent78:∀ us w,(callFunc 78 us).run Tryz.prog w = .ok (.enter 78 us) w:=fun us w=>by kernel_rfl
theorem ent122:∀ us w,(callFunc 122 us).run Tryz.prog w = .ok (.enter 122 us) w:=fun us w=>by kernel_rfl
theorem ent123:∀ us w,(callFunc 123 us).run Tryz.prog w = .ok (.enter 123 us) w:=fun us w=>by kernel_rfl
theorem ent125:∀ us w,(callFunc 125 us).run Tryz.prog w = .ok (.enter 125 us) w:=fun us w=>by kernel_rfl
theorem ent127:∀ us w,(callFunc 127 us).run Tryz.prog w = .ok (.enter 127 us) w:=fun us w=>by kernel_rfl
theorem ent166:∀ us w,(callFunc 166 us).run Tryz.prog w = .ok (.enter 166 us) w:=fun us w=>by kernel_rfl
theorem l7All_w {W:World}{own:List Asn}{cr:Int}{cd:List Int}{vL:Value}{uL:List Value}(sL:IsS vL)(eL:Ent own fun w=>Sl w vL (rSt cr cd).length 1 uL)(mL:∀ k,k<(rSt cr cd).length→Ent own fun w=>Ints w (uL.getD k undef) ((rSt cr cd).getD k []))(lL:uL.length=(rSt cr cd).length)(aL:AllS uL)(hS:(tyS cr cd).isSome=true):Spec Tryz.prog 122 [vL] W own (fun v ow=>∃ (v0:Value) (ws0:List Value),v=v0∧IsS v0∧(AllS (uL++ws0))∧(ws0.length=(rSt cr cd).length)∧ow=lst 22 v0 (uL++ws0)::many (ints 3) ws0 ((rSt cr cd).map mnF)::own):=by
 have hcr:=(tyS_ok hS).1
 have hcd:=(tyS_ok hS).2
 have hMl:smM cr cd=(rSt cr cd).length:=rfl
 have hNl:smN cr cd=2*smM cr cd+cr.toNat:=rfl
 have hr4:=(rtOk hS).rk
 have hlo:=(rtOk hS).lo
 have hRf:(rSt cr cd).length≤30:=by have h1:=(rtOk hS).slen;have h2:=(rtOk hS).few;omega
 have hle:∀ k,k<(rSt cr cd).length→((rSt cr cd).getD k []).length≤1073741824:=fun k hk=>by have:=(root_get hS (getR_mem hk)).1;omega
 refine Spec.enter Tryz.f122 _ Tryz.func122 rfl (n:=23) rfl rfl ?_
 refine Zs (Zr (Za rfl (Zn (Zt (Zs (Zr (G.step (OG.buildLst (xs:=[]) (us:=[]) rfl et60 rfl rfl rfl rfl rfl) rfl rfl rfl ?_)))))))
 rintro v1 _ ⟨hs2,rfl⟩
 refine Zm rfl (G.step (OG.appendLst 0 rfl rfl et60 rfl rfl rfl (Ent.len (Ent.drop 1 eL) (by omega)) (List.all_eq_true.2 fun u hu=>by simpa using aL.one u hu) (by simp[maxLen] <;> omega)) rfl rfl rfl ?_)
 rintro v3 _ ⟨hs4,rfl⟩
 refine Za rfl (Zn (Zt (Zs (Zs (Zr (Za rfl (Zn (Zt (GC.block ?_)))))))))
 have hal0:AllS (uL++[]):=by rw[List.append_nil];exact aL
 refine GC.ownEq (own':=lst 22 v3 (uL++[])::own) (by rw[List.append_nil];rfl) ?_
 refine GC.many0 (ints 3) ?_
 refine GC.ownEq (own':=many (ints 3) [] (((rSt cr cd).take 0).map mnF)::lst 22 v3 (uL++[])::own) (rfl) ?_
 refine GC.loop (ι:=Nat × List Value × Value) (fun⟨k,ws,v⟩=>[(0,vL),(3,v),(4,.int .i64 ((k:Int)))]) (fun⟨k,ws,v⟩=>many (ints 3) ws (((rSt cr cd).take k).map mnF)::lst 22 v (uL++ws)::own) (fun⟨k,ws,v⟩=>(k≤(rSt cr cd).length)∧(ws.length=k)∧(AllS (uL++ws))∧(IsS v)) (fun⟨k,ws,v⟩=>(rSt cr cd).length - k) (0,[],v3) (⟨by omega,rfl,hal0,hs4⟩) ⟨rfl,rfl,rfl,trivial⟩ [] 0 rfl ?_
 rintro⟨k,ws,v⟩ ⟨hk,hwl,hal,hv⟩
 refine Zs (Zs (Zr (Zm rfl (Zm rfl (Zd (OD.len rfl rfl et60 rfl (Ent.drop 2 eL)) rfl ?_)))))
 refine Zd (OD.lss rfl rfl rfl) rfl ?_
 refine Zn (Zt ?_)
 refine GC.cond rfl (fun hc5=>?_) (fun hc5=>?_)
 replace hc5:=of_decide_eq_true hc5
 have hrk:=rt_tens hS (rt_in (getR_mem (show k<(rSt cr cd).length by omega)))
 refine Zk (Zt (Zs (GC.block (Zr ?_))))
 refine Zm rfl (Zm rfl (Zm rfl (Zd (OD.indexAddr rfl et60 rfl (Ent.drop 2 eL) rfl (by omega)) rfl ?_)))
 refine Zd (OD.loadElem rfl ti22 rfl (Ent.drop 2 eL) (by omega) rfl) rfl ?_
 refine G.step (OG.call [(uL.getD (k) undef)] ent80 rfl rfl rfl rfl (by exact(l5Minus_w (aL.get (by omega)) (Ent.drop 2 (mL (k) (by omega))) (fun j _=>by have:=hrk.2.1 j;omega) (by have:=hrk.1;omega)))) rfl rfl rfl ?_
 rintro v6 _ ⟨_,rfl,hs7,rfl⟩
 refine G.step (OG.buildLst (xs:=[.tmp 19]) (us:=[v6]) rfl et60 rfl rfl rfl (allC (IsS.one hs7) rfl) rfl) rfl rfl rfl ?_
 rintro v8 _ ⟨hs9,rfl⟩
 refine G.step (OG.appendLst 3 rfl rfl et60 rfl rfl rfl (Ent.lst (i:=0) rfl) (List.all_eq_true.2 fun u hu=>by simpa using(AllS.snoc AllS.nil hs7).one u hu) (by simp[maxLen] <;> omega)) rfl rfl rfl ?_
 rintro v10 _ ⟨hs11,rfl⟩
 refine Za rfl (Zn (GE.blockN (Zt (Zr ?_))))
 refine Zm rfl (Zd (OD.addI rfl rfl rfl (by omega)) rfl ?_)
 refine Za rfl (Zn ?_)
 refine GE.at [1,1,0,0] 0 (env':=[(0,vL),(8,.int .i64 ((k:Int))),(9,vL),(10,.int .i64 (((rSt cr cd).length:Nat))),(11,.bool (decide ((k:Int)<((rSt cr cd).length:Nat)))),(14,v),(15,vL),(16,.int .i64 ((k:Int))),(17,elemPtr vL 1 (k)),(18,(uL.getD (k) undef)),(19,v6),(20,v8),(21,v10),(3,v10),(12,.int .i64 ((k:Int))),(13,.int .i64 ((k:Int)+1)),(4,.int .i64 ((k:Int)+1))]) ⟨rfl,rfl,rfl,rfl,rfl,rfl,rfl,rfl,rfl,rfl,rfl,rfl,rfl,rfl,rfl,rfl,rfl,trivial⟩ (own':=ints 3 v6 (mnF ((rSt cr cd).getD (k) []))::many (ints 3) ws (((rSt cr cd).take k).map mnF)::lst 22 v8 [v6]::lst 22 v10 ((uL++ws)++[v6])::own) rfl ?_
 refine GE.manyPush (by rw[hwl,List.length_map,List.length_take];omega) ?_
 have haln:AllS (uL++(ws++[v6])):=by rw[← List.append_assoc];exact(hal.snoc hs7)
 refine GE.ownEq (own':=many (ints 3) (ws++[v6]) (((rSt cr cd).take (k+1)).map mnF)::lst 22 v8 [v6]::lst 22 v10 (uL++(ws++[v6]))::own) (by rw[take_mn (by omega),List.append_assoc] <;> rfl) ?_
 exact GE.again (k+1,ws++[v6],v10) (⟨by omega,by rw[List.length_append,List.length_singleton,hwl],haln,hs11⟩) (by first | omega | (dsimp only;omega)) ⟨rfl,rfl,rfl,trivial⟩ [0,1] 1 rfl
 replace hc5:=of_decide_eq_false hc5
 refine GC.exit (Zp (Zp (GE.hit (Zt (Zs (Zr ?_))))))
 refine Zm rfl (Za rfl (Zn (Zt (GC.ret ?_))))
 refine GE.ownEq (own':=many (ints 3) ws ((rSt cr cd).map mnF)::lst 22 v (uL++ws)::own) (by dsimp only;rw[show k=(rSt cr cd).length by omega,List.take_length]) ?_
 skip
 exact GE.body [1,0] 0 (res1 rfl rfl) rfl (⟨v,ws,rfl,(hv),(hal),(by omega),rfl⟩)
theorem abelian_w {W:World}{own:List Asn}{p:Int}{n:Int}{N:Nat}(hpr:primeB p=true)(hn:n=(N:Int))(h28:N≤28):Spec Tryz.prog 123 [.int .i64 (p),.int .i64 (n)] W own (fun v ow=>∃ (r2:Value),v = .agg #[.int .i64 (p),.int .i64 (n),r2]∧IsS r2∧ow=ints 3 r2 (List.replicate (N*N*N) 0)::own):=by
 have hcu:=(cube_eq h28).2
 have hin:inB n 0 28=true:=inB_of (by omega) (by omega)
 refine Spec.enter Tryz.f123 _ Tryz.func123 rfl (n:=23) rfl rfl ?_
 refine Zs (Zr (G.step (OG.alloc rfl ti43 (zs:=[.int .i64 (0),.int .i64 (0),.slice none 0 0]) rfl) rfl rfl rfl ?_))
 rintro _ _ ⟨g1,rfl,rfl⟩
 refine Zn (Zt (Zs (Zs (Zr (Zm rfl (G.step (OG.imp (K':=fun v ow=>v = .bool true∧ow=box g1 43 [.int .i64 (0),.int .i64 (0),.slice none 0 0]::own) (OG.call [.int .i64 (p)] ent59 rfl rfl rfl rfl (by exact specIsPrime_s)) (by rintro _ _ ⟨rfl,rfl⟩;exact⟨congrArg Value.bool (hpr),rfl⟩)) rfl rfl rfl ?_))))))
 rintro _ _ ⟨rfl,rfl⟩
 refine Zd (OD.not rfl rfl) rfl ?_
 refine Zm rfl (G.stepGD (OD.move rfl rfl) rfl rfl rfl rfl rfl ?_)
 refine G.stepG (OG.imp (K':=fun v ow=>v = .bool true∧ow=box g1 43 [.int .i64 (0),.int .i64 (0),.slice none 0 0]::own) (OG.call [.int .i64 (n),.int .i64 (0),.int .i64 (28)] ent77 rfl rfl rfl rfl (by exact l1In_w)) (by rintro _ _ ⟨rfl,rfl⟩;exact⟨congrArg Value.bool (hin),rfl⟩)) rfl rfl rfl rfl rfl ?_
 rintro _ _ ⟨rfl,rfl⟩
 refine G.stepGD (OD.not rfl rfl) rfl rfl rfl rfl rfl ?_
 refine Zd (OD.pickF rfl rfl rfl) rfl ?_
 refine Zn (Zt (GC.condF rfl (Zk (Zt (Zs (Zr ?_))))))
 refine Zm rfl (Zm rfl (Zm rfl (Zm rfl (Zd (OD.mul rfl rfl rfl) rfl ?_))))
 refine Zm rfl (Zd (OD.eqv (OD.mul rfl rfl rfl) (congrArg (Value.int .i64) ((by rw[hn];exact(cube_eq h28).1):(IntKind.i64.wrap ((IntKind.i64.wrap (n*n))*n):Int)=(((N*N*N:Nat):Int))))) rfl ?_)
 refine G.step (OG.makeInts rfl et22 rfl rfl (by omega)) rfl rfl rfl ?_
 rintro v2 _ ⟨hs3,rfl⟩
 refine Zd (OD.build (idx:=[0,1,2]) (xs:=[.tmp 14,.tmp 15,.tmp 21]) (vs:=[.int .i64 (p),.int .i64 (n),v2]) (cs:=[[.int .i64 (p)],[.int .i64 (n)],[v2]]) (zs:=[.int .i64 (0),.int .i64 (0),.slice none 0 0]) (r:=[.int .i64 (p),.int .i64 (n),v2]) rfl ti43 rfl rfl rfl ⟨rfl,⟨rfl,⟨(one_cells (IsS.one hs3)),trivial⟩⟩⟩ rfl) rfl ?_
 refine G.stepD0 (OD.store rfl ti43 rfl rfl (us:=[.int .i64 (p),.int .i64 (n),v2]) rfl rfl (allC rfl (allC rfl (allC (IsS.one hs3) rfl))) (i:=1) rfl rfl) rfl rfl ?_
 refine Zn (Zt (GC.ret ?_))
 exact GE.body [0] 1 (resN rfl (RVs.cons (rv_cells ti43 rfl (i:=1) rfl rfl) RVs.nil) rfl) rfl (⟨v2,rfl,hs3,rfl⟩)
theorem l7Set_w {W:World}{own:List Asn}{ap:Int}{an:Int}{vad:Value}{ad:List Int}{i:Nat}{j:Nat}{k:Nat}{x:Int}(sad:IsS vad){N:Nat}(hn:an=(N:Int))(h28:N≤28)(hi:i<N)(hj:j<N)(hk:k<N)(hl:ad.length=N*N*N)(hap:1≤ap∧ap≤1000000)(hv : -20000≤x∧x≤20000):Spec Tryz.prog 125 [.agg #[.int .i64 (ap),.int .i64 (an),vad],.int .i64 ((i:Int)),.int .i64 ((j:Int)),.int .i64 ((k:Int)),.int .i64 (x)] W (ints 3 vad ad::own) (fun v ow=>v = .tuple #[]∧ow=ints 3 vad ((ad.set ((i*N+j)*N+k) (x%ap)).set ((j*N+i)*N+k) ((0 - x)%ap))::own):=by
 obtain⟨q1,hq1⟩:∃ q1:Nat,q1=(i*N+j)*N+k:=⟨_,rfl⟩
 obtain⟨q2,hq2⟩:∃ q2:Nat,q2=(j*N+i)*N+k:=⟨_,rfl⟩
 obtain⟨hqe1,hql1⟩:=at3 h28 hi hj hk hq1
 obtain⟨hqe2,hql2⟩:=at3 h28 hj hi hk hq2
 refine Spec.enter Tryz.f125 _ Tryz.func125 rfl (n:=47) rfl rfl ?_
 refine Zs (Zr (G.step (OG.box (cs:=[.int .i64 (ap),.int .i64 (an),vad]) rfl rfl rfl) rfl rfl rfl ?_))
 rintro _ _ ⟨g1,rfl,rfl⟩
 refine Zn (Zt (Zs (GC.at [] 0 (env':=[(1,.int .i64 ((i:Int))),(2,.int .i64 ((j:Int))),(3,.int .i64 ((k:Int))),(4,.int .i64 (x)),(5,.pointer (some ⟨g1,0,none⟩))]) ⟨rfl,rfl,rfl,rfl,rfl,trivial⟩ rfl ?_)))
 refine GC.par (its:=[Z0 10 (.pointer (some ⟨g1,2,none⟩)),
     Z1 11 [(0,10)] vad,
     Z0 12 (.int .i64 ((i:Int))),
     Z0 13 (.pointer (some ⟨g1,1,none⟩)),
     Z1 14 [(3,13)] (.int .i64 (an)),
     Z1 15 [(2,12),(4,14)] (.int .i64 (IntKind.i64.wrap ((i:Int)*an))),
     Z0 16 (.int .i64 ((j:Int))),
     Z1 17 [(5,15),(6,16)] (.int .i64 (IntKind.i64.wrap ((IntKind.i64.wrap ((i:Int)*an))+(j:Int)))),
     Z0 18 (.pointer (some ⟨g1,1,none⟩)),
     Z1 19 [(8,18)] (.int .i64 (an)),
     Z1 20 [(7,17),(9,19)] (.int .i64 (IntKind.i64.wrap ((IntKind.i64.wrap ((IntKind.i64.wrap ((i:Int)*an))+(j:Int)))*an))),
     Z0 21 (.int .i64 ((k:Int))),
     Z1 22 [(10,20),(11,21)] (.int .i64 ((q1:Int))),
     Z0 23 (.int .i64 (x)),
     Z0 24 (.pointer (some ⟨g1,0,none⟩)),
     Z1 25 [(14,24)] (.int .i64 (ap)),
     Z1 26 [(13,23),(15,25)] (.int .i64 (x%ap)),
     Z1 27 [(1,11),(12,22)] (elemPtr vad 1 (q1))]) (by kernel_rfl) (by kernel_rfl) (Zc ?_ (Zc ?_ (Zc ?_ (Zc ?_ (Zc ?_ (Zc ?_ (Zc ?_ (Zc ?_ (Zc ?_ (Zc ?_ (Zc ?_ (Zc ?_ (Zc ?_ (Zc ?_ (Zc ?_ (Zc ?_ (Zc ?_ (Zc ?_ POps.nil)))))))))))))))))) ?_
 exact fun θ R hd=>Zq (OD.fieldAddr rfl rfl fa43_2) rfl
 exact fun θ R ⟨h0d,_⟩=>Zq (OD.load rfl ti22 rfl (i:=0) rfl rfl) rfl
 exact fun θ R hd=>Zq (OD.move rfl rfl) rfl
 exact fun θ R hd=>Zq (OD.fieldAddr rfl rfl fa43_1) rfl
 exact fun θ R ⟨h3d,_⟩=>Zq (OD.load rfl ti3 rfl (i:=0) rfl rfl) rfl
 exact fun θ R ⟨h2d,h4d,_⟩=>Zq (OD.mul rfl rfl rfl) rfl
 exact fun θ R hd=>Zq (OD.move rfl rfl) rfl
 exact fun θ R ⟨h5d,h6d,_⟩=>Zq (OD.add rfl rfl rfl) rfl
 exact fun θ R hd=>Zq (OD.fieldAddr rfl rfl fa43_1) rfl
 exact fun θ R ⟨h8d,_⟩=>Zq (OD.load rfl ti3 rfl (i:=0) rfl rfl) rfl
 exact fun θ R ⟨h7d,h9d,_⟩=>Zq (OD.mul rfl rfl rfl) rfl
 exact fun θ R hd=>Zq (OD.move rfl rfl) rfl
 exact fun θ R ⟨h10d,h11d,_⟩=>Zq (OD.eqv (OD.add rfl rfl rfl) (congrArg (Value.int .i64) ((by rw[hn];exact hqe1):(IntKind.i64.wrap ((IntKind.i64.wrap ((IntKind.i64.wrap ((IntKind.i64.wrap ((i:Int)*an))+(j:Int)))*an))+(k:Int)):Int)=((q1:Int))))) rfl
 exact fun θ R hd=>Zq (OD.move rfl rfl) rfl
 exact fun θ R hd=>Zq (OD.fieldAddr rfl rfl fa43_0) rfl
 exact fun θ R ⟨h14d,_⟩=>Zq (OD.load rfl ti3 rfl (i:=0) rfl rfl) rfl
 exact fun θ R ⟨h13d,h15d,_⟩=>Zq (OG.call [.int .i64 (x),.int .i64 (ap)] ent166 rfl rfl rfl rfl (by exact(l1Mod_s (hap)))) rfl
 exact fun θ R ⟨h1d,h12d,_⟩=>Zq (OD.indexAddr rfl et22 rfl (Ent.ints (i:=1) rfl) rfl (by omega)) rfl
 intro θ hall
 obtain⟨_,_,_,_,_,_,_,_,_,_,_,_,_,_,_,_,_,_,_⟩:=hall
 refine G.at [] 0 (env':=[(1,.int .i64 ((i:Int))),(2,.int .i64 ((j:Int))),(3,.int .i64 ((k:Int))),(4,.int .i64 (x)),(5,.pointer (some ⟨g1,0,none⟩)),(26,.int .i64 (x%ap)),(27,elemPtr vad 1 (q1))]) ⟨rfl,rfl,rfl,rfl,rfl,rfl,rfl,trivial⟩ (own':=box g1 43 [.int .i64 (ap),.int .i64 (an),vad]::ints 3 vad ad::own) rfl ?_
 show G _ _ _ [_] _ _ _ _
 refine G.stepD0 (OD.storeInt rfl ti3 rfl rfl (i:=1) rfl (by omega)) rfl rfl ?_
 refine Zn (Zt (GC.at [] 0 (env':=[(1,.int .i64 ((i:Int))),(2,.int .i64 ((j:Int))),(3,.int .i64 ((k:Int))),(4,.int .i64 (x)),(5,.pointer (some ⟨g1,0,none⟩))]) ⟨rfl,rfl,rfl,rfl,rfl,trivial⟩ rfl ?_))
 refine GC.par (its:=[Z0 28 (.pointer (some ⟨g1,2,none⟩)),
     Z1 29 [(0,28)] vad,
     Z0 30 (.int .i64 ((j:Int))),
     Z0 31 (.pointer (some ⟨g1,1,none⟩)),
     Z1 32 [(3,31)] (.int .i64 (an)),
     Z1 33 [(2,30),(4,32)] (.int .i64 (IntKind.i64.wrap ((j:Int)*an))),
     Z0 34 (.int .i64 ((i:Int))),
     Z1 35 [(5,33),(6,34)] (.int .i64 (IntKind.i64.wrap ((IntKind.i64.wrap ((j:Int)*an))+(i:Int)))),
     Z0 36 (.pointer (some ⟨g1,1,none⟩)),
     Z1 37 [(8,36)] (.int .i64 (an)),
     Z1 38 [(7,35),(9,37)] (.int .i64 (IntKind.i64.wrap ((IntKind.i64.wrap ((IntKind.i64.wrap ((j:Int)*an))+(i:Int)))*an))),
     Z0 39 (.int .i64 ((k:Int))),
     Z1 40 [(10,38),(11,39)] (.int .i64 ((q2:Int))),
     Z0 41 (.int .i64 (x)),
     Z1 42 [(13,41)] (.int .i64 (0 - x)),
     Z0 43 (.pointer (some ⟨g1,0,none⟩)),
     Z1 44 [(15,43)] (.int .i64 (ap)),
     Z1 45 [(14,42),(16,44)] (.int .i64 ((0 - x)%ap)),
     Z1 46 [(1,29),(12,40)] (elemPtr vad 1 (q2))]) (by kernel_rfl) (by kernel_rfl) (Zc ?_ (Zc ?_ (Zc ?_ (Zc ?_ (Zc ?_ (Zc ?_ (Zc ?_ (Zc ?_ (Zc ?_ (Zc ?_ (Zc ?_ (Zc ?_ (Zc ?_ (Zc ?_ (Zc ?_ (Zc ?_ (Zc ?_ (Zc ?_ (Zc ?_ POps.nil))))))))))))))))))) ?_
 exact fun θ R hd=>Zq (OD.fieldAddr rfl rfl fa43_2) rfl
 exact fun θ R ⟨h0d,_⟩=>Zq (OD.load rfl ti22 rfl (i:=0) rfl rfl) rfl
 exact fun θ R hd=>Zq (OD.move rfl rfl) rfl
 exact fun θ R hd=>Zq (OD.fieldAddr rfl rfl fa43_1) rfl
 exact fun θ R ⟨h3d,_⟩=>Zq (OD.load rfl ti3 rfl (i:=0) rfl rfl) rfl
 exact fun θ R ⟨h2d,h4d,_⟩=>Zq (OD.mul rfl rfl rfl) rfl
 exact fun θ R hd=>Zq (OD.move rfl rfl) rfl
 exact fun θ R ⟨h5d,h6d,_⟩=>Zq (OD.add rfl rfl rfl) rfl
 exact fun θ R hd=>Zq (OD.fieldAddr rfl rfl fa43_1) rfl
 exact fun θ R ⟨h8d,_⟩=>Zq (OD.load rfl ti3 rfl (i:=0) rfl rfl) rfl
 exact fun θ R ⟨h7d,h9d,_⟩=>Zq (OD.mul rfl rfl rfl) rfl
 exact fun θ R hd=>Zq (OD.move rfl rfl) rfl
 exact fun θ R ⟨h10d,h11d,_⟩=>Zq (OD.eqv (OD.add rfl rfl rfl) (congrArg (Value.int .i64) ((by rw[hn];exact hqe2):(IntKind.i64.wrap ((IntKind.i64.wrap ((IntKind.i64.wrap ((IntKind.i64.wrap ((j:Int)*an))+(i:Int)))*an))+(k:Int)):Int)=((q2:Int))))) rfl
 exact fun θ R hd=>Zq (OD.move rfl rfl) rfl
 exact fun θ R ⟨h13d,_⟩=>Zq (OD.subI rfl rfl rfl (by first | omega | (simp only[List.length_set,List.length_replicate];omega))) rfl
 exact fun θ R hd=>Zq (OD.fieldAddr rfl rfl fa43_0) rfl
 exact fun θ R ⟨h15d,_⟩=>Zq (OD.load rfl ti3 rfl (i:=0) rfl rfl) rfl
 exact fun θ R ⟨h14d,h16d,_⟩=>Zq (OG.call [.int .i64 (0 - x),.int .i64 (ap)] ent166 rfl rfl rfl rfl (by exact(l1Mod_s (hap)))) rfl
 exact fun θ R ⟨h1d,h12d,_⟩=>Zq (OD.indexAddr rfl et22 rfl (Ent.ints (i:=1) rfl) rfl (by first | omega | (simp only[List.length_set,List.length_replicate];omega))) rfl
 intro θ hall
 obtain⟨_,_,_,_,_,_,_,_,_,_,_,_,_,_,_,_,_,_,_,_⟩:=hall
 refine G.at [] 0 (env':=[(45,.int .i64 ((0 - x)%ap)),(46,elemPtr vad 1 (q2))]) ⟨rfl,rfl,trivial⟩ (own':=box g1 43 [.int .i64 (ap),.int .i64 (an),vad]::ints 3 vad ((ad).set (q1) (x%ap))::own) rfl ?_
 show G _ _ _ [_] _ _ _ _
 refine G.stepD0 (OD.storeInt rfl ti3 rfl rfl (i:=1) rfl (by first | omega | (simp only[List.length_set,List.length_replicate];omega))) rfl rfl ?_
 exact Zn (GE.bodyN [1] 1 (res0 rfl) rfl (⟨rfl,congrArg (fun(l0:List Int)=>ints 3 vad l0::own) ((by rw[hq1,hq2]:((ad).set (q1) (x%ap)).set (q2) ((0 - x)%ap)=(ad.set ((i*N+j)*N+k) (x%ap)).set ((j*N+i)*N+k) ((0 - x)%ap)))⟩))
theorem l7Table_w {W:World}{own:List Asn}{cr:Int}{vcd:Value}{cd:List Int}{p:Int}(scd:IsS vcd)(ecd:Ent own fun w=>Ints w vcd cd)(hS:(tyS cr cd).isSome=true)(hpr:primeB p=true)(h28:smN cr cd≤28):Spec Tryz.prog 60 [.agg #[.int .i64 (cr),vcd],.int .i64 (p)] W own (fun v ow=>∃ (r2:Value),v = .agg #[.int .i64 (p),.int .i64 ((smN cr cd:Nat)),r2]∧IsS r2∧ow=ints 3 r2 (stT cr cd p)::own):=by
 have hcr:=(tyS_ok hS).1
 have hcd:=(tyS_ok hS).2
 have hMl:smM cr cd=(rSt cr cd).length:=rfl
 have hNl:smN cr cd=2*smM cr cd+cr.toNat:=rfl
 have hr4:=(rtOk hS).rk
 have hlo:=(rtOk hS).lo
 have hRf:(rSt cr cd).length≤30:=by have h1:=(rtOk hS).slen;have h2:=(rtOk hS).few;omega
 have hle:∀ k,k<(rSt cr cd).length→((rSt cr cd).getD k []).length≤1073741824:=fun k hk=>by have:=(root_get hS (getR_mem hk)).1;omega
 have hpp:=primeB_range hpr
 refine Spec.enter Tryz.f60 _ Tryz.func60 rfl (n:=126) rfl rfl ?_
 refine Zs (Zr (G.step (OG.box (cs:=[.int .i64 (cr),vcd]) rfl rfl rfl) rfl rfl rfl ?_))
 rintro _ _ ⟨g1,rfl,rfl⟩
 refine G.step (OG.alloc rfl ti43 (zs:=[.int .i64 (0),.int .i64 (0),.slice none 0 0]) rfl) rfl rfl rfl ?_
 rintro _ _ ⟨g2,rfl,rfl⟩
 refine Zn (Zt (Zs (Zr (Zd (OD.loadAgg rfl ti27 rfl (i:=1) rfl (us:=[.int .i64 (cr),vcd]) rfl rfl) rfl ?_))))
 refine G.step (OG.call [.agg #[.int .i64 (cr),vcd]] ent39 rfl rfl rfl rfl (by exact(l5Roots_w scd (Ent.drop 2 ecd) (hcr) (hcd) (hS)))) rfl rfl rfl ?_
 rintro v3 _ ⟨_,u4,rfl,hs5,hs6,hs7,rfl⟩
 refine Za rfl (Zn (Zt (Zs (Zr (Zm rfl (Zd (OD.len rfl rfl et60 rfl (Ent.lst (i:=0) rfl)) rfl ?_))))))
 refine Za rfl (Zn (Zt (Zs (Zr (Zm rfl (G.step (OG.call [v3] ent122 rfl rfl rfl rfl (by exact(l7All_w hs5 (Ent.len (Ent.lst (i:=0) rfl) (by omega)) (fun k hk=>Ent.manyInts (i:=1) (k:=k) rfl ⟨by omega,hk⟩) (by omega) hs6 (cr:=cr) (cd:=cd) (hS)))) rfl rfl rfl ?_))))))
 rintro v8 _ ⟨_,u9,rfl,hs10,hs11,hs12,rfl⟩
 refine Za rfl (Zn (Zt (Zs ?_)))
 have hall:(u4++u9).length=2*smM cr cd:=by rw[List.length_append];omega
 refine Zr (Zd (OD.loadAgg rfl ti27 rfl (i:=5) rfl (us:=[.int .i64 (cr),vcd]) rfl rfl) rfl ?_)
 refine Zm rfl (G.step (OG.call [.agg #[.int .i64 (cr),vcd],v3] ent93 rfl rfl rfl rfl (by exact(l7New_w scd (Ent.drop 6 ecd) hs5 (Ent.len (Ent.lst (i:=2) rfl) (by omega)) (fun k hk=>Ent.manyInts (i:=3) (k:=k) rfl ⟨by omega,hk⟩) (by omega) hs6 (hS)))) rfl rfl rfl ?_)
 rintro _ _ ⟨g13,v14,v15,rfl,hs16,hs17,rfl⟩
 refine Za rfl (Zn (Zt (Zs (Zr (Zm rfl (Zm rfl (Zd (OD.mulI rfl rfl rfl (by omega)) rfl ?_)))))))
 refine Zd (OD.fieldAddr rfl rfl fa27_0) rfl ?_
 refine Zd (OD.load rfl ti3 rfl (i:=7) rfl rfl) rfl ?_
 refine Zd (OD.addI rfl rfl rfl (by omega)) rfl ?_
 refine G.step (OG.call [.int .i64 (p),.int .i64 ((2*(u4.length:Nat))+cr)] ent123 rfl rfl rfl rfl (by exact(abelian_w (N:=smN cr cd) (hpr) (by omega) (h28)))) rfl rfl rfl ?_
 rintro _ _ ⟨v18,rfl,hs19,rfl⟩
 refine G.step (OG.alloc rfl ti43 (zs:=[.int .i64 (0),.int .i64 (0),.slice none 0 0]) rfl) rfl rfl rfl ?_
 rintro _ _ ⟨g20,rfl,rfl⟩
 refine G.stepD0 (OD.store rfl ti43 rfl rfl (us:=[.int .i64 (p),.int .i64 ((2*(u4.length:Nat))+cr),v18]) rfl rfl (allC rfl (allC rfl (allC (IsS.one hs19) rfl))) (i:=0) rfl rfl) rfl rfl ?_
 refine Zn (Zt (Zs (Zs (Zr (Za rfl (Zn (Zt (GC.block ?_))))))))
 refine GC.loop (ι:=Nat × List Int) (fun⟨u,ys⟩=>[(2,.pointer (some ⟨g1,0,none⟩)),(4,.pointer (some ⟨g2,0,none⟩)),(5,v3),(6,.int .i64 ((u4.length:Nat))),(7,v8),(8,.pointer (some ⟨g13,0,none⟩)),(9,.pointer (some ⟨g20,0,none⟩)),(10,.int .i64 ((u:Int)))]) (fun⟨u,ys⟩=>box g20 43 [.int .i64 (p),.int .i64 ((2*(u4.length:Nat))+cr),v18]::ints 3 v18 ys::box g13 147 [.int .i64 (cr),vcd,v3,v14,v15]::memS 4 3 v14 v15 cr cd::lst 22 v8 (u4++u9)::many (ints 3) u9 ((rSt cr cd).map mnF)::lst 22 v3 u4::many (ints 3) u4 (rSt cr cd)::box g2 43 [.int .i64 (0),.int .i64 (0),.slice none 0 0]::box g1 27 [.int .i64 (cr),vcd]::own) (fun⟨u,ys⟩=>(u≤2*smM cr cd)∧(SpI cr cd p u 0 0 0 ys)) (fun⟨u,ys⟩=>2*smM cr cd - u) (0,List.replicate ((smN cr cd)*(smN cr cd)*(smN cr cd)) 0) (⟨by omega,SpI.new⟩) ⟨rfl,rfl,rfl,rfl,rfl,rfl,rfl,rfl,trivial⟩ [] 0 rfl ?_
 rintro⟨u,ys⟩ ⟨hu,hT0⟩
 refine Zs (Zs (Zr (Zm rfl (Zm rfl (Zd (OD.len rfl rfl et60 rfl (Ent.lst (i:=4) rfl)) rfl ?_)))))
 refine Zd (OD.lss rfl rfl rfl) rfl ?_
 refine Zn (Zt ?_)
 refine GC.cond rfl (fun hc21=>?_) (fun hc21=>?_)
 replace hc21:=of_decide_eq_true hc21
 have hu1:u<2*smM cr cd:=by omega
 have hrx:=all_rt hS hu1
 obtain⟨hxl,hx10,_⟩:=rt_tens hS hrx
 have hwl:=wtF_len cr cd ((allR cr cd).getD (u) [])
 have hw12:=fun q=>wtA hS hrx q
 have hiu0:=l7I_all hS hu1
 have hiul:=spI_lt (n:=cr) (d:=cd) hu1
 obtain⟨iu,hiu⟩:∃ iu:Nat,iu=spI cr cd u:=⟨_,rfl⟩
 refine Zk (Zt (Zs (GC.block (Zs (Zr ?_)))))
 refine Zm rfl (Zm rfl (Zd (OD.indexAddr rfl et60 rfl (Ent.lst (i:=4) rfl) rfl (by omega)) rfl ?_))
 refine Zd (OD.loadElem rfl ti22 rfl (Ent.lst (i:=4) rfl) (by omega) rfl) rfl ?_
 refine Za rfl (Zn (Zt (Zs (Zr (Zd (OD.loadAgg rfl ti27 rfl (i:=9) rfl (us:=[.int .i64 (cr),vcd]) rfl rfl) rfl ?_)))))
 refine Zm rfl (Zm rfl ?_)
 refine G.step (OG.call [.agg #[.int .i64 (cr),vcd],v3,((u4++u9).getD (u) undef)] ent78 rfl rfl rfl rfl (by exact(l7Index_w scd (Ent.drop 10 ecd) hs5 (Ent.len (Ent.lst (i:=6) rfl) (by omega)) (fun k hk=>Ent.manyInts (i:=7) (k:=k) rfl ⟨by omega,hk⟩) (by omega) hs6 (hs11.get (by omega)) (all_view (fun q hq=>Ent.manyInts (i:=7) (k:=q) rfl ⟨by omega,hq⟩) (i:=5) rfl (by omega) (by omega) (by omega)) (hcr) (by omega) (fun k hk=>hle k hk) (fun j _=>by have:=hx10 j;omega) (by omega)))) rfl rfl rfl ?_
 rintro _ _ ⟨rfl,rfl⟩
 refine Zd (OD.eqv (OD.assign rfl rfl) (congrArg (Value.int .i64) ((by rw[hiu];exact hiu0):(l7I cr (rSt cr cd) ((allR cr cd).getD (u) []):Int)=((iu:Int))))) rfl ?_
 refine Zn (Zt (Zs (Zr (Zd (OD.loadAgg rfl ti27 rfl (i:=9) rfl (us:=[.int .i64 (cr),vcd]) rfl rfl) rfl ?_))))
 refine Zm rfl (G.step (OG.call [.agg #[.int .i64 (cr),vcd],((u4++u9).getD (u) undef)] ent124 rfl rfl rfl rfl (by exact(l5Weight_w scd (Ent.drop 10 ecd) (hs11.get (by omega)) (all_view (fun q hq=>Ent.manyInts (i:=7) (k:=q) rfl ⟨by omega,hq⟩) (i:=5) rfl (by omega) (by omega) (by omega)) (hcr) (hcd) (by omega)))) rfl rfl rfl ?_)
 rintro v22 _ ⟨_,rfl,hs23,rfl⟩
 refine Za rfl (Zn (Zt (Zs (Zs (Zr (Za rfl (Zn (Zt (GC.block ?_)))))))))
 refine GC.loop (ι:=Nat × List Int) (fun⟨k,zs⟩=>[(2,.pointer (some ⟨g1,0,none⟩)),(4,.pointer (some ⟨g2,0,none⟩)),(5,v3),(6,.int .i64 ((u4.length:Nat))),(7,v8),(8,.pointer (some ⟨g13,0,none⟩)),(9,.pointer (some ⟨g20,0,none⟩)),(10,.int .i64 ((u:Int))),(11,((u4++u9).getD (u) undef)),(12,.int .i64 ((iu:Int))),(13,v22),(14,.int .i64 ((k:Int)))]) (fun⟨k,zs⟩=>ints 3 v22 (wtF cr cd ((allR cr cd).getD (u) []))::box g20 43 [.int .i64 (p),.int .i64 ((2*(u4.length:Nat))+cr),v18]::ints 3 v18 zs::box g13 147 [.int .i64 (cr),vcd,v3,v14,v15]::memS 4 3 v14 v15 cr cd::lst 22 v8 (u4++u9)::many (ints 3) u9 ((rSt cr cd).map mnF)::lst 22 v3 u4::many (ints 3) u4 (rSt cr cd)::box g2 43 [.int .i64 (0),.int .i64 (0),.slice none 0 0]::box g1 27 [.int .i64 (cr),vcd]::own) (fun⟨k,zs⟩=>(k≤cr.toNat)∧(SpI cr cd p u k 0 0 zs)) (fun⟨k,zs⟩=>cr.toNat - k) (0,ys) (⟨by omega,hT0⟩) ⟨rfl,rfl,rfl,rfl,rfl,rfl,rfl,rfl,rfl,rfl,rfl,rfl,trivial⟩ [] 0 rfl ?_
 rintro⟨k,zs⟩ ⟨hk,hT1⟩
 refine Zs (Zs (Zr (Zm rfl (Zd (OD.fieldAddr rfl rfl fa27_0) rfl ?_))))
 refine Zd (OD.load rfl ti3 rfl (i:=10) rfl rfl) rfl ?_
 refine Zd (OD.lss rfl rfl rfl) rfl ?_
 refine Zn (Zt ?_)
 refine GC.cond rfl (fun hc24=>?_) (fun hc24=>?_)
 replace hc24:=of_decide_eq_true hc24
 obtain⟨hq,hhq⟩:∃ hq:Nat,hq=smM cr cd+k:=⟨_,rfl⟩
 have hzl:=hT1.len
 have hw12k : -12000≤(wtF cr cd ((allR cr cd).getD (u) [])).getD ((k:Int)).toNat 0∧(wtF cr cd ((allR cr cd).getD (u) [])).getD ((k:Int)).toNat 0≤12000:=hw12 _
 refine Zk (Zt (Zs (GC.block ?_)))
 refine GC.at [] 0 (env':=[(2,.pointer (some ⟨g1,0,none⟩)),(4,.pointer (some ⟨g2,0,none⟩)),(5,v3),(6,.int .i64 ((u4.length:Nat))),(7,v8),(8,.pointer (some ⟨g13,0,none⟩)),(9,.pointer (some ⟨g20,0,none⟩)),(10,.int .i64 ((u:Int))),(11,((u4++u9).getD (u) undef)),(12,.int .i64 ((iu:Int))),(13,v22),(14,.int .i64 ((k:Int)))]) ⟨rfl,rfl,rfl,rfl,rfl,rfl,rfl,rfl,rfl,rfl,rfl,rfl,trivial⟩ rfl ?_
 refine GC.par (its:=[Z0 60 (.agg #[.int .i64 (p),.int .i64 ((2*(u4.length:Nat))+cr),v18]),
     Z0 61 (.int .i64 ((u4.length:Nat))),
     Z0 62 (.int .i64 ((k:Int))),
     Z1 63 [(1,61),(2,62)] (.int .i64 ((hq:Int))),
     Z0 64 (.int .i64 ((iu:Int))),
     Z0 65 (.int .i64 ((iu:Int))),
     Z0 66 v22,
     Z0 67 (.int .i64 ((k:Int))),
     Z1 68 [(6,66),(7,67)] (elemPtr v22 1 (k)),
     Z1 69 [(8,68)] (.int .i64 ((wtF cr cd ((allR cr cd).getD (u) [])).getD (k) 0))]) (by kernel_rfl) (by kernel_rfl) (Zc ?_ (Zc ?_ (Zc ?_ (Zc ?_ (Zc ?_ (Zc ?_ (Zc ?_ (Zc ?_ (Zc ?_ (Zc ?_ POps.nil)))))))))) ?_
 exact fun θ R hd=>Zq (OD.loadAgg rfl ti43 rfl (i:=1) rfl (us:=[.int .i64 (p),.int .i64 ((2*(u4.length:Nat))+cr),v18]) rfl rfl) rfl
 exact fun θ R hd=>Zq (OD.move rfl rfl) rfl
 exact fun θ R hd=>Zq (OD.move rfl rfl) rfl
 exact fun θ R ⟨h1d,h2d,_⟩=>Zq (OD.eqv (OD.addI rfl rfl rfl (by omega)) (congrArg (Value.int .i64) ((by omega):((u4.length:Nat)+(k:Int):Int)=((hq:Int))))) rfl
 exact fun θ R hd=>Zq (OD.move rfl rfl) rfl
 exact fun θ R hd=>Zq (OD.move rfl rfl) rfl
 exact fun θ R hd=>Zq (OD.move rfl rfl) rfl
 exact fun θ R hd=>Zq (OD.move rfl rfl) rfl
 exact fun θ R ⟨h6d,h7d,_⟩=>Zq (OD.indexAddr rfl et22 rfl (Ent.ints (i:=0) rfl) rfl (by omega)) rfl
 exact fun θ R ⟨h8d,_⟩=>Zq (OD.loadInt rfl ti3 rfl (Ent.ints (i:=0) rfl) (by omega)) rfl
 intro θ hall
 obtain⟨_,_,_,_,_,_,_,_,_,_,_⟩:=hall
 refine G.at [] 0 (env':=[(2,.pointer (some ⟨g1,0,none⟩)),(4,.pointer (some ⟨g2,0,none⟩)),(5,v3),(6,.int .i64 ((u4.length:Nat))),(7,v8),(8,.pointer (some ⟨g13,0,none⟩)),(9,.pointer (some ⟨g20,0,none⟩)),(10,.int .i64 ((u:Int))),(11,((u4++u9).getD (u) undef)),(12,.int .i64 ((iu:Int))),(13,v22),(14,.int .i64 ((k:Int))),(60,.agg #[.int .i64 (p),.int .i64 ((2*(u4.length:Nat))+cr),v18]),(63,.int .i64 ((hq:Int))),(64,.int .i64 ((iu:Int))),(65,.int .i64 ((iu:Int))),(69,.int .i64 ((wtF cr cd ((allR cr cd).getD (u) [])).getD (k) 0))]) ⟨rfl,rfl,rfl,rfl,rfl,rfl,rfl,rfl,rfl,rfl,rfl,rfl,rfl,rfl,rfl,rfl,rfl,trivial⟩ (own':=ints 3 v22 (wtF cr cd ((allR cr cd).getD (u) []))::box g20 43 [.int .i64 (p),.int .i64 ((2*(u4.length:Nat))+cr),v18]::ints 3 v18 zs::box g13 147 [.int .i64 (cr),vcd,v3,v14,v15]::memS 4 3 v14 v15 cr cd::lst 22 v8 (u4++u9)::many (ints 3) u9 ((rSt cr cd).map mnF)::lst 22 v3 u4::many (ints 3) u4 (rSt cr cd)::box g2 43 [.int .i64 (0),.int .i64 (0),.slice none 0 0]::box g1 27 [.int .i64 (cr),vcd]::own) rfl ?_
 show G _ _ _ [_] _ _ _ _
 refine G.at [2] 0 (env':=[(2,.pointer (some ⟨g1,0,none⟩)),(4,.pointer (some ⟨g2,0,none⟩)),(5,v3),(6,.int .i64 ((u4.length:Nat))),(7,v8),(8,.pointer (some ⟨g13,0,none⟩)),(9,.pointer (some ⟨g20,0,none⟩)),(10,.int .i64 ((u:Int))),(11,((u4++u9).getD (u) undef)),(12,.int .i64 ((iu:Int))),(13,v22),(14,.int .i64 ((k:Int))),(60,.agg #[.int .i64 (p),.int .i64 ((2*(u4.length:Nat))+cr),v18]),(63,.int .i64 ((hq:Int))),(64,.int .i64 ((iu:Int))),(65,.int .i64 ((iu:Int))),(69,.int .i64 ((wtF cr cd ((allR cr cd).getD (u) [])).getD (k) 0))]) ⟨rfl,rfl,rfl,rfl,rfl,rfl,rfl,rfl,rfl,rfl,rfl,rfl,rfl,rfl,rfl,rfl,rfl,trivial⟩ (own':=ints 3 v18 zs::ints 3 v22 (wtF cr cd ((allR cr cd).getD (u) []))::box g20 43 [.int .i64 (p),.int .i64 ((2*(u4.length:Nat))+cr),v18]::box g13 147 [.int .i64 (cr),vcd,v3,v14,v15]::memS 4 3 v14 v15 cr cd::lst 22 v8 (u4++u9)::many (ints 3) u9 ((rSt cr cd).map mnF)::lst 22 v3 u4::many (ints 3) u4 (rSt cr cd)::box g2 43 [.int .i64 (0),.int .i64 (0),.slice none 0 0]::box g1 27 [.int .i64 (cr),vcd]::own) rfl ?_
 refine G.step (OG.call [.agg #[.int .i64 (p),.int .i64 ((2*(u4.length:Nat))+cr),v18],.int .i64 ((hq:Int)),.int .i64 ((iu:Int)),.int .i64 ((iu:Int)),.int .i64 ((wtF cr cd ((allR cr cd).getD (u) [])).getD (k) 0)] ent125 rfl rfl rfl rfl (by exact(l7Set_w hs19 (N:=smN cr cd) (by omega) (h28) (by omega) (by omega) (by omega) (by omega) (by omega) (by have:=hw12 k;omega)))) rfl rfl rfl ?_
 rintro _ _ ⟨rfl,rfl⟩
 refine Zn (GE.blockN (Zt (Zr ?_)))
 refine Zm rfl (Zd (OD.addI rfl rfl rfl (by first | omega | (simp only[List.length_set,List.length_replicate];omega))) rfl ?_)
 exact Za rfl (Zn (GE.again (k+1,(zs.set ((hq*(smN cr cd)+iu)*(smN cr cd)+iu) (((wtF cr cd ((allR cr cd).getD (u) [])).getD (k) 0)%p)).set ((iu*(smN cr cd)+hq)*(smN cr cd)+iu) ((0 - ((wtF cr cd ((allR cr cd).getD (u) [])).getD (k) 0))%p)) (⟨by omega,hT1.wtq hS hu1 (by omega) rfl hiu hhq⟩) (by first | omega | (dsimp only;omega)) ⟨rfl,rfl,rfl,rfl,rfl,rfl,rfl,rfl,rfl,rfl,rfl,rfl,trivial⟩ [1,1,0,0,0,0,0,0,0,0,0] 0 rfl))
 replace hc24:=of_decide_eq_false hc24
 refine GC.exit (Zp (Zp (GE.hit (Zt (Zs (Zr ?_))))))
 refine Za rfl (Zn (Zt (GC.block ?_)))
 refine GC.loop (ι:=Nat × List Int) (fun⟨v,us⟩=>[(2,.pointer (some ⟨g1,0,none⟩)),(4,.pointer (some ⟨g2,0,none⟩)),(5,v3),(6,.int .i64 ((u4.length:Nat))),(7,v8),(8,.pointer (some ⟨g13,0,none⟩)),(9,.pointer (some ⟨g20,0,none⟩)),(10,.int .i64 ((u:Int))),(11,((u4++u9).getD (u) undef)),(12,.int .i64 ((iu:Int))),(15,.int .i64 ((v:Int)))]) (fun⟨v,us⟩=>ints 3 v22 (wtF cr cd ((allR cr cd).getD (u) []))::box g20 43 [.int .i64 (p),.int .i64 ((2*(u4.length:Nat))+cr),v18]::ints 3 v18 us::box g13 147 [.int .i64 (cr),vcd,v3,v14,v15]::memS 4 3 v14 v15 cr cd::lst 22 v8 (u4++u9)::many (ints 3) u9 ((rSt cr cd).map mnF)::lst 22 v3 u4::many (ints 3) u4 (rSt cr cd)::box g2 43 [.int .i64 (0),.int .i64 (0),.slice none 0 0]::box g1 27 [.int .i64 (cr),vcd]::own) (fun⟨v,us⟩=>(v≤u)∧(SpI cr cd p u cr.toNat v 0 us)) (fun⟨v,us⟩=>u - v) (0,zs) (⟨by omega,(show k=cr.toNat by omega) ▸ hT1⟩) ⟨rfl,rfl,rfl,rfl,rfl,rfl,rfl,rfl,rfl,rfl,rfl,trivial⟩ [] 0 rfl ?_
 rintro⟨v,us⟩ ⟨hv,hT2⟩
 refine Zs (Zs (Zr (Zm rfl (Zm rfl (Zd (OD.lss rfl rfl rfl) rfl ?_)))))
 refine Zn (Zt ?_)
 refine GC.cond rfl (fun hc25=>?_) (fun hc25=>?_)
 replace hc25:=of_decide_eq_true hc25
 have hv1:v<2*smM cr cd:=by omega
 have hry:=all_rt hS hv1
 obtain⟨hyl,hy10,_⟩:=rt_tens hS hry
 have hjv0:=l7I_all hS hv1
 have hjvl:=spI_lt (n:=cr) (d:=cd) hv1
 obtain⟨jv,hjv⟩:∃ jv:Nat,jv=spI cr cd v:=⟨_,rfl⟩
 have hml:=mnF_len ((allR cr cd).getD (v) [])
 have hul:=hT2.len
 have hpl:=lpF_len ((allR cr cd).getD (u) []) 1 ((allR cr cd).getD (v) [])
 have hcrl:=crF_len cr cd ((allR cr cd).getD (v) [])
 refine Zk (Zt (Zs (GC.block (Zs (Zr ?_)))))
 refine Zm rfl (Zm rfl (Zd (OD.indexAddr rfl et60 rfl (Ent.lst (i:=5) rfl) rfl (by omega)) rfl ?_))
 refine Zd (OD.loadElem rfl ti22 rfl (Ent.lst (i:=5) rfl) (by omega) rfl) rfl ?_
 refine Za rfl (Zn (Zt (Zs (Zr (Zd (OD.loadAgg rfl ti27 rfl (i:=10) rfl (us:=[.int .i64 (cr),vcd]) rfl rfl) rfl ?_)))))
 refine Zm rfl (Zm rfl ?_)
 refine G.step (OG.call [.agg #[.int .i64 (cr),vcd],v3,((u4++u9).getD (v) undef)] ent78 rfl rfl rfl rfl (by exact(l7Index_w scd (Ent.drop 11 ecd) hs5 (Ent.len (Ent.lst (i:=7) rfl) (by omega)) (fun k hk=>Ent.manyInts (i:=8) (k:=k) rfl ⟨by omega,hk⟩) (by omega) hs6 (hs11.get (by omega)) (all_view (fun q hq=>Ent.manyInts (i:=8) (k:=q) rfl ⟨by omega,hq⟩) (i:=6) rfl (by omega) (by omega) (by omega)) (hcr) (by omega) (fun k hk=>hle k hk) (fun j _=>by have:=hy10 j;omega) (by omega)))) rfl rfl rfl ?_
 rintro _ _ ⟨rfl,rfl⟩
 refine Zd (OD.eqv (OD.assign rfl rfl) (congrArg (Value.int .i64) ((by rw[hjv];exact hjv0):(l7I cr (rSt cr cd) ((allR cr cd).getD (v) []):Int)=((jv:Int))))) rfl ?_
 refine Zn (Zt (Zs (Zs (Zr (Zm rfl (Zm rfl (G.step (OG.call [((u4++u9).getD (v) undef)] ent80 rfl rfl rfl rfl (by exact(l5Minus_w (hs11.get (by omega)) (all_view (fun q hq=>Ent.manyInts (i:=8) (k:=q) rfl ⟨by omega,hq⟩) (i:=6) rfl (by omega) (by omega) (by omega)) (fun j _=>by have:=hy10 j;omega) (by omega)))) rfl rfl rfl ?_)))))))
 rintro v26 _ ⟨_,rfl,hs27,rfl⟩
 refine G.step (OG.call [((u4++u9).getD (u) undef),v26] ent126 rfl rfl rfl rfl (by exact(l1Same_s (hs11.get (by omega)) (all_view (fun q hq=>Ent.manyInts (i:=9) (k:=q) rfl ⟨by omega,hq⟩) (i:=7) rfl (by omega) (by omega) (by omega)) hs27 (Ent.ints (i:=0) rfl) (by omega)))) rfl rfl rfl ?_
 rintro _ _ ⟨rfl,rfl⟩
 refine Zn (Zt ?_)
 refine GC.cond rfl (fun hc28=>?_) (fun hc28=>?_)
 refine Zs (Zr (Zd (OD.loadAgg rfl ti27 rfl (i:=11) rfl (us:=[.int .i64 (cr),vcd]) rfl rfl) rfl ?_))
 refine Zm rfl (G.step (OG.call [.agg #[.int .i64 (cr),vcd],((u4++u9).getD (v) undef)] ent127 rfl rfl rfl rfl (by exact(l5Coroot_w scd (Ent.drop 12 ecd) (hs11.get (by omega)) (all_view (fun q hq=>Ent.manyInts (i:=9) (k:=q) rfl ⟨by omega,hq⟩) (i:=7) rfl (by omega) (by omega) (by omega)) (hS) (by omega) (in_two hS hry)))) rfl rfl rfl ?_)
 rintro v29 _ ⟨_,rfl,hs30,rfl⟩
 refine Za rfl (Zn (Zt (Zs (Zs (Zr (Za rfl (Zn (Zt (GC.block ?_)))))))))
 refine GC.loop (ι:=Nat × List Int) (fun⟨t,xs⟩=>[(2,.pointer (some ⟨g1,0,none⟩)),(4,.pointer (some ⟨g2,0,none⟩)),(5,v3),(6,.int .i64 ((u4.length:Nat))),(7,v8),(8,.pointer (some ⟨g13,0,none⟩)),(9,.pointer (some ⟨g20,0,none⟩)),(10,.int .i64 ((u:Int))),(11,((u4++u9).getD (u) undef)),(12,.int .i64 ((iu:Int))),(15,.int .i64 ((v:Int))),(17,.int .i64 ((jv:Int))),(18,v29),(19,.int .i64 ((t:Int)))]) (fun⟨t,xs⟩=>ints 3 v29 (crF cr cd ((allR cr cd).getD (v) []))::ints 3 v26 (mnF ((allR cr cd).getD (v) []))::ints 3 v22 (wtF cr cd ((allR cr cd).getD (u) []))::box g20 43 [.int .i64 (p),.int .i64 ((2*(u4.length:Nat))+cr),v18]::ints 3 v18 xs::box g13 147 [.int .i64 (cr),vcd,v3,v14,v15]::memS 4 3 v14 v15 cr cd::lst 22 v8 (u4++u9)::many (ints 3) u9 ((rSt cr cd).map mnF)::lst 22 v3 u4::many (ints 3) u4 (rSt cr cd)::box g2 43 [.int .i64 (0),.int .i64 (0),.slice none 0 0]::box g1 27 [.int .i64 (cr),vcd]::own) (fun⟨t,xs⟩=>(t≤cr.toNat)∧(SpI cr cd p u cr.toNat v (smM cr cd+t) xs)) (fun⟨t,xs⟩=>cr.toNat - t) (0,us) (⟨by omega,SpI.co0 hS hT2 hu1 (by omega) hc28⟩) ⟨rfl,rfl,rfl,rfl,rfl,rfl,rfl,rfl,rfl,rfl,rfl,rfl,rfl,rfl,trivial⟩ [] 0 rfl ?_
 rintro⟨t,xs⟩ ⟨ht,hT3⟩
 refine Zs (Zs (Zr (Zm rfl (Zd (OD.fieldAddr rfl rfl fa27_0) rfl ?_))))
 refine Zd (OD.load rfl ti3 rfl (i:=12) rfl rfl) rfl ?_
 refine Zd (OD.lss rfl rfl rfl) rfl ?_
 refine Zn (Zt ?_)
 refine GC.cond rfl (fun hc31=>?_) (fun hc31=>?_)
 replace hc31:=of_decide_eq_true hc31
 obtain⟨c0,hc0⟩:∃ c0:Nat,c0=smM cr cd+t:=⟨_,rfl⟩
 have hxsl:=hT3.len
 have hcg:=(crF_get hS hry (show t<cr.toNat by omega)).2
 have hcg2 : -360≤(crF cr cd ((allR cr cd).getD (v) [])).getD ((t:Int)).toNat 0∧(crF cr cd ((allR cr cd).getD (v) [])).getD ((t:Int)).toNat 0≤360:=hcg
 refine Zk (Zt (Zs (GC.block ?_)))
 refine GC.at [] 0 (env':=[(2,.pointer (some ⟨g1,0,none⟩)),(4,.pointer (some ⟨g2,0,none⟩)),(5,v3),(6,.int .i64 ((u4.length:Nat))),(7,v8),(8,.pointer (some ⟨g13,0,none⟩)),(9,.pointer (some ⟨g20,0,none⟩)),(10,.int .i64 ((u:Int))),(11,((u4++u9).getD (u) undef)),(12,.int .i64 ((iu:Int))),(15,.int .i64 ((v:Int))),(17,.int .i64 ((jv:Int))),(18,v29),(19,.int .i64 ((t:Int)))]) ⟨rfl,rfl,rfl,rfl,rfl,rfl,rfl,rfl,rfl,rfl,rfl,rfl,rfl,rfl,trivial⟩ rfl ?_
 refine GC.par (its:=[Z0 97 (.agg #[.int .i64 (p),.int .i64 ((2*(u4.length:Nat))+cr),v18]),
     Z0 98 (.int .i64 ((jv:Int))),
     Z0 99 (.int .i64 ((iu:Int))),
     Z0 100 (.int .i64 ((u4.length:Nat))),
     Z0 101 (.int .i64 ((t:Int))),
     Z1 102 [(3,100),(4,101)] (.int .i64 ((c0:Int))),
     Z0 103 v29,
     Z0 104 (.int .i64 ((t:Int))),
     Z1 105 [(6,103),(7,104)] (elemPtr v29 1 (t)),
     Z1 106 [(8,105)] (.int .i64 ((crF cr cd ((allR cr cd).getD (v) [])).getD (t) 0))]) (by kernel_rfl) (by kernel_rfl) (Zc ?_ (Zc ?_ (Zc ?_ (Zc ?_ (Zc ?_ (Zc ?_ (Zc ?_ (Zc ?_ (Zc ?_ (Zc ?_ POps.nil)))))))))) ?_
 exact fun θ R hd=>Zq (OD.loadAgg rfl ti43 rfl (i:=3) rfl (us:=[.int .i64 (p),.int .i64 ((2*(u4.length:Nat))+cr),v18]) rfl rfl) rfl
 exact fun θ R hd=>Zq (OD.move rfl rfl) rfl
 exact fun θ R hd=>Zq (OD.move rfl rfl) rfl
 exact fun θ R hd=>Zq (OD.move rfl rfl) rfl
 exact fun θ R hd=>Zq (OD.move rfl rfl) rfl
 exact fun θ R ⟨h3d,h4d,_⟩=>Zq (OD.eqv (OD.addI rfl rfl rfl (by omega)) (congrArg (Value.int .i64) ((by omega):((u4.length:Nat)+(t:Int):Int)=((c0:Int))))) rfl
 exact fun θ R hd=>Zq (OD.move rfl rfl) rfl
 exact fun θ R hd=>Zq (OD.move rfl rfl) rfl
 exact fun θ R ⟨h6d,h7d,_⟩=>Zq (OD.indexAddr rfl et22 rfl (Ent.ints (i:=0) rfl) rfl (by omega)) rfl
 exact fun θ R ⟨h8d,_⟩=>Zq (OD.loadInt rfl ti3 rfl (Ent.ints (i:=0) rfl) (by omega)) rfl
 intro θ hall
 obtain⟨_,_,_,_,_,_,_,_,_,_,_⟩:=hall
 refine G.at [] 0 (env':=[(2,.pointer (some ⟨g1,0,none⟩)),(4,.pointer (some ⟨g2,0,none⟩)),(5,v3),(6,.int .i64 ((u4.length:Nat))),(7,v8),(8,.pointer (some ⟨g13,0,none⟩)),(9,.pointer (some ⟨g20,0,none⟩)),(10,.int .i64 ((u:Int))),(11,((u4++u9).getD (u) undef)),(12,.int .i64 ((iu:Int))),(15,.int .i64 ((v:Int))),(17,.int .i64 ((jv:Int))),(18,v29),(19,.int .i64 ((t:Int))),(97,.agg #[.int .i64 (p),.int .i64 ((2*(u4.length:Nat))+cr),v18]),(98,.int .i64 ((jv:Int))),(99,.int .i64 ((iu:Int))),(102,.int .i64 ((c0:Int))),(106,.int .i64 ((crF cr cd ((allR cr cd).getD (v) [])).getD (t) 0))]) ⟨rfl,rfl,rfl,rfl,rfl,rfl,rfl,rfl,rfl,rfl,rfl,rfl,rfl,rfl,rfl,rfl,rfl,rfl,rfl,trivial⟩ (own':=ints 3 v29 (crF cr cd ((allR cr cd).getD (v) []))::ints 3 v26 (mnF ((allR cr cd).getD (v) []))::ints 3 v22 (wtF cr cd ((allR cr cd).getD (u) []))::box g20 43 [.int .i64 (p),.int .i64 ((2*(u4.length:Nat))+cr),v18]::ints 3 v18 xs::box g13 147 [.int .i64 (cr),vcd,v3,v14,v15]::memS 4 3 v14 v15 cr cd::lst 22 v8 (u4++u9)::many (ints 3) u9 ((rSt cr cd).map mnF)::lst 22 v3 u4::many (ints 3) u4 (rSt cr cd)::box g2 43 [.int .i64 (0),.int .i64 (0),.slice none 0 0]::box g1 27 [.int .i64 (cr),vcd]::own) rfl ?_
 show G _ _ _ [_] _ _ _ _
 refine G.at [4] 0 (env':=[(2,.pointer (some ⟨g1,0,none⟩)),(4,.pointer (some ⟨g2,0,none⟩)),(5,v3),(6,.int .i64 ((u4.length:Nat))),(7,v8),(8,.pointer (some ⟨g13,0,none⟩)),(9,.pointer (some ⟨g20,0,none⟩)),(10,.int .i64 ((u:Int))),(11,((u4++u9).getD (u) undef)),(12,.int .i64 ((iu:Int))),(15,.int .i64 ((v:Int))),(17,.int .i64 ((jv:Int))),(18,v29),(19,.int .i64 ((t:Int))),(97,.agg #[.int .i64 (p),.int .i64 ((2*(u4.length:Nat))+cr),v18]),(98,.int .i64 ((jv:Int))),(99,.int .i64 ((iu:Int))),(102,.int .i64 ((c0:Int))),(106,.int .i64 ((crF cr cd ((allR cr cd).getD (v) [])).getD (t) 0))]) ⟨rfl,rfl,rfl,rfl,rfl,rfl,rfl,rfl,rfl,rfl,rfl,rfl,rfl,rfl,rfl,rfl,rfl,rfl,rfl,trivial⟩ (own':=ints 3 v18 xs::ints 3 v29 (crF cr cd ((allR cr cd).getD (v) []))::ints 3 v26 (mnF ((allR cr cd).getD (v) []))::ints 3 v22 (wtF cr cd ((allR cr cd).getD (u) []))::box g20 43 [.int .i64 (p),.int .i64 ((2*(u4.length:Nat))+cr),v18]::box g13 147 [.int .i64 (cr),vcd,v3,v14,v15]::memS 4 3 v14 v15 cr cd::lst 22 v8 (u4++u9)::many (ints 3) u9 ((rSt cr cd).map mnF)::lst 22 v3 u4::many (ints 3) u4 (rSt cr cd)::box g2 43 [.int .i64 (0),.int .i64 (0),.slice none 0 0]::box g1 27 [.int .i64 (cr),vcd]::own) rfl ?_
 refine G.step (OG.call [.agg #[.int .i64 (p),.int .i64 ((2*(u4.length:Nat))+cr),v18],.int .i64 ((jv:Int)),.int .i64 ((iu:Int)),.int .i64 ((c0:Int)),.int .i64 ((crF cr cd ((allR cr cd).getD (v) [])).getD (t) 0)] ent125 rfl rfl rfl rfl (by exact(l7Set_w hs19 (N:=smN cr cd) (by omega) (h28) (by omega) (by omega) (by omega) (by omega) (by omega) (by have:=hcg;omega)))) rfl rfl rfl ?_
 rintro _ _ ⟨rfl,rfl⟩
 refine Zn (GE.blockN (Zt (Zr ?_)))
 refine Zm rfl (Zd (OD.addI rfl rfl rfl (by first | omega | (simp only[List.length_set,List.length_replicate];omega))) rfl ?_)
 exact Za rfl (Zn (GE.again (t+1,(xs.set ((jv*(smN cr cd)+iu)*(smN cr cd)+c0) (((crF cr cd ((allR cr cd).getD (v) [])).getD (t) 0)%p)).set ((iu*(smN cr cd)+jv)*(smN cr cd)+c0) ((0 - ((crF cr cd ((allR cr cd).getD (v) [])).getD (t) 0))%p)) (⟨by omega,SpI.co hS hT3 hu1 (by omega) (by omega) hc28 hiu hjv hc0 rfl⟩) (by first | omega | (dsimp only;omega)) ⟨rfl,rfl,rfl,rfl,rfl,rfl,rfl,rfl,rfl,rfl,rfl,rfl,rfl,rfl,trivial⟩ [1,1,1,1,0,0,0,0,0,0,0,0,0] 0 rfl))
 replace hc31:=of_decide_eq_false hc31
 refine GC.exit (Zp (Zp (GE.hit (Zt (GC.exit (Zp (GE.hit (Zt (Zr ?_)))))))))
 refine Zm rfl (Zd (OD.addI rfl rfl rfl (by omega)) rfl ?_)
 exact Za rfl (Zn (GE.again (v+1,xs) (⟨by omega,SpI.coE hS ((show t=cr.toNat by omega) ▸ hT3) hu1 (by omega) hc28⟩) (by first | omega | (dsimp only;omega)) ⟨rfl,rfl,rfl,rfl,rfl,rfl,rfl,rfl,rfl,rfl,rfl,trivial⟩ [2,2,2,2,2,2,2,2,2,2,2] 2 rfl))
 refine Zk (Zt (Zs ?_))
 refine GC.at [] 0 (env':=[(2,.pointer (some ⟨g1,0,none⟩)),(4,.pointer (some ⟨g2,0,none⟩)),(5,v3),(6,.int .i64 ((u4.length:Nat))),(7,v8),(8,.pointer (some ⟨g13,0,none⟩)),(9,.pointer (some ⟨g20,0,none⟩)),(10,.int .i64 ((u:Int))),(11,((u4++u9).getD (u) undef)),(12,.int .i64 ((iu:Int))),(15,.int .i64 ((v:Int))),(16,((u4++u9).getD (v) undef)),(17,.int .i64 ((jv:Int)))]) ⟨rfl,rfl,rfl,rfl,rfl,rfl,rfl,rfl,rfl,rfl,rfl,rfl,rfl,trivial⟩ rfl ?_
 refine GC.par (its:=[Z0 108 (.agg #[.int .i64 (cr),vcd]),
     Z0 109 v3,
     Z0 110 (((u4++u9).getD (u) undef)),
     Z0 111 (((u4++u9).getD (v) undef)),
     ⟨112,[(2,110),(3,111)],[],[],[4],fun ds=>((ds.getD 0 []).getD 0 undef),fun ds=>IsS ((ds.getD 0 []).getD 0 undef),fun ds=>[ints 3 ((ds.getD 0 []).getD 0 undef) (lpF ((allR cr cd).getD (u) []) 1 ((allR cr cd).getD (v) []))]⟩,
     ⟨113,[(0,108),(1,109),(4,112)],[4],[],[4],fun _ => .int .i64 (l7I cr (rSt cr cd) (lpF ((allR cr cd).getD (u) []) 1 ((allR cr cd).getD (v) []))),fun _=>True,fun _=>[]⟩]) (by kernel_rfl) (by kernel_rfl) (Zc ?_ (Zc ?_ (Zc ?_ (Zc ?_ (Zc ?_ (Zc ?_ POps.nil)))))) ?_
 exact fun θ R hd=>Zq (OD.loadAgg rfl ti27 rfl (i:=11) rfl (us:=[.int .i64 (cr),vcd]) rfl rfl) rfl
 exact fun θ R hd=>Zq (OD.move rfl rfl) rfl
 exact fun θ R hd=>Zq (OD.move rfl rfl) rfl
 exact fun θ R hd=>Zq (OD.move rfl rfl) rfl
 exact fun θ R ⟨h2d,h3d,_⟩=>Opp.plain (OG.imp (OG.call [((u4++u9).getD (u) undef),.int .i64 (1),((u4++u9).getD (v) undef)] ent47 rfl rfl rfl rfl (by exact(l5Plus_w (hs11.get (by omega)) (all_view (fun q hq=>Ent.manyInts (i:=9) (k:=q) rfl ⟨by omega,hq⟩) (i:=7) rfl (by omega) (by omega) (by omega)) (hs11.get (by omega)) (all_view (fun q hq=>Ent.manyInts (i:=9) (k:=q) rfl ⟨by omega,hq⟩) (i:=7) rfl (by omega) (by omega) (by omega)) (by omega) (by omega)))) (by rintro v32 _ ⟨_,rfl,hs33,rfl⟩;exact⟨[v32],rfl,hs33,rfl⟩)) rfl
 exact fun θ R ⟨h0d,h1d,h4d,_⟩=>Zq (OG.call [.agg #[.int .i64 (cr),vcd],v3,((θ 4).getD 0 undef)] ent78 rfl rfl rfl rfl (by exact(l7Index_w scd (Ent.drop 13 ecd.app) hs5 (Ent.len (Ent.lst (i:=9) rfl) hs7) (fun k hk=>Ent.manyInts (i:=10) (k:=k) rfl ⟨by rw[hs7];exact hk,hk⟩) hs7 hs6 h4d (Ent.ints (i:=0) rfl) (hcr) (by omega) (fun k hk=>hle k hk) (lp_th hS (.inl rfl) hrx hry) (by omega)))) rfl
 intro θ hall
 obtain⟨_,_,_,_,h4a,_,_⟩:=hall
 refine G.at [] 0 (env':=[(2,.pointer (some ⟨g1,0,none⟩)),(4,.pointer (some ⟨g2,0,none⟩)),(5,v3),(6,.int .i64 ((u4.length:Nat))),(7,v8),(8,.pointer (some ⟨g13,0,none⟩)),(9,.pointer (some ⟨g20,0,none⟩)),(10,.int .i64 ((u:Int))),(11,((u4++u9).getD (u) undef)),(12,.int .i64 ((iu:Int))),(15,.int .i64 ((v:Int))),(16,((u4++u9).getD (v) undef)),(17,.int .i64 ((jv:Int))),(113,.int .i64 (l7I cr (rSt cr cd) (lpF ((allR cr cd).getD (u) []) 1 ((allR cr cd).getD (v) []))))]) ⟨rfl,rfl,rfl,rfl,rfl,rfl,rfl,rfl,rfl,rfl,rfl,rfl,rfl,rfl,trivial⟩ (own':=ints 3 ((θ 4).getD 0 undef) (lpF ((allR cr cd).getD (u) []) 1 ((allR cr cd).getD (v) []))::ints 3 v26 (mnF ((allR cr cd).getD (v) []))::ints 3 v22 (wtF cr cd ((allR cr cd).getD (u) []))::box g20 43 [.int .i64 (p),.int .i64 ((2*(u4.length:Nat))+cr),v18]::ints 3 v18 us::box g13 147 [.int .i64 (cr),vcd,v3,v14,v15]::memS 4 3 v14 v15 cr cd::lst 22 v8 (u4++u9)::many (ints 3) u9 ((rSt cr cd).map mnF)::lst 22 v3 u4::many (ints 3) u4 (rSt cr cd)::box g2 43 [.int .i64 (0),.int .i64 (0),.slice none 0 0]::box g1 27 [.int .i64 (cr),vcd]::own) rfl ?_
 have hs34:IsS ((θ 4).getD 0 undef):=h4a
 clear h4a
 generalize ((θ 4).getD 0 undef)=v35 at *
 show G _ _ _ [_] _ _ _ _
 refine Za rfl (Zn (Zt (Zs (Zr (Zm rfl (Zd (OD.geq rfl rfl rfl) rfl ?_))))))
 refine Zn (Zt ?_)
 refine GC.cond rfl (fun hc36=>?_) (fun hc36=>?_)
 replace hc36:=of_decide_eq_true hc36
 obtain⟨z,hz⟩:∃ z:Nat,l7I cr (rSt cr cd) (lpF ((allR cr cd).getD (u) []) 1 ((allR cr cd).getD (v) []))=(z:Int):=⟨_,(Int.toNat_of_nonneg (by omega)).symm⟩
 have hN:=hT2.N hS hu1 (show v<u by omega) hc28 hiu hjv hz (w:=nF cr cd ((allR cr cd).getD (u) []) ((allR cr cd).getD (v) [])) rfl
 have hzN:=hN.2
 have hnb:=nF_bd hS hrx hry
 refine GC.at [] 0 (env':=[(2,.pointer (some ⟨g1,0,none⟩)),(4,.pointer (some ⟨g2,0,none⟩)),(5,v3),(6,.int .i64 ((u4.length:Nat))),(7,v8),(8,.pointer (some ⟨g13,0,none⟩)),(9,.pointer (some ⟨g20,0,none⟩)),(10,.int .i64 ((u:Int))),(11,((u4++u9).getD (u) undef)),(12,.int .i64 ((iu:Int))),(15,.int .i64 ((v:Int))),(16,((u4++u9).getD (v) undef)),(17,.int .i64 ((jv:Int))),(20,.int .i64 (l7I cr (rSt cr cd) (lpF ((allR cr cd).getD (u) []) 1 ((allR cr cd).getD (v) []))))]) ⟨rfl,rfl,rfl,rfl,rfl,rfl,rfl,rfl,rfl,rfl,rfl,rfl,rfl,rfl,trivial⟩ rfl ?_
 refine GC.par (its:=[Z0 116 (.agg #[.int .i64 (p),.int .i64 ((2*(u4.length:Nat))+cr),v18]),
     Z0 117 (.int .i64 ((iu:Int))),
     Z0 118 (.int .i64 ((jv:Int))),
     Z0 119 (.int .i64 ((z:Int))),
     Z0 120 (.pointer (some ⟨g13,0,none⟩)),
     Z0 121 (((u4++u9).getD (u) undef)),
     Z0 122 (((u4++u9).getD (v) undef)),
     Z1 123 [(4,120),(5,121),(6,122)] (.int .i64 (nF cr cd ((allR cr cd).getD (u) []) ((allR cr cd).getD (v) [])))]) (by kernel_rfl) (by kernel_rfl) (Zc ?_ (Zc ?_ (Zc ?_ (Zc ?_ (Zc ?_ (Zc ?_ (Zc ?_ (Zc ?_ POps.nil)))))))) ?_
 exact fun θ R hd=>Zq (OD.loadAgg rfl ti43 rfl (i:=3) rfl (us:=[.int .i64 (p),.int .i64 ((2*(u4.length:Nat))+cr),v18]) rfl rfl) rfl
 exact fun θ R hd=>Zq (OD.move rfl rfl) rfl
 exact fun θ R hd=>Zq (OD.move rfl rfl) rfl
 exact fun θ R hd=>Zq (OD.eqv (OD.move rfl rfl) (congrArg (Value.int .i64) ((hz):(l7I cr (rSt cr cd) (lpF ((allR cr cd).getD (u) []) 1 ((allR cr cd).getD (v) [])):Int)=((z:Int))))) rfl
 exact fun θ R hd=>Zq (OD.move rfl rfl) rfl
 exact fun θ R hd=>Zq (OD.move rfl rfl) rfl
 exact fun θ R hd=>Zq (OD.move rfl rfl) rfl
 exact fun θ R ⟨h4d,h5d,h6d,_⟩=>Zq (OG.call [.pointer (some ⟨g13,0,none⟩),((u4++u9).getD (u) undef),((u4++u9).getD (v) undef)] ent92 rfl rfl rfl rfl (by exact(Spec.atIdx2 (i:=5) (j:=5) rfl rfl (l7Find_w (cnM ((allR cr cd).getD (u) []) ((allR cr cd).getD (v) [])+1) scd (Ent.drop 11 ecd.app) hs5 (Ent.len (Ent.lst (i:=7) rfl) hs7) (fun k hk=>Ent.manyInts (i:=8) (k:=k) rfl ⟨by rw[hs7];exact hk,hk⟩) hs7 hs6 hs16 hs17 (hs11.get (by omega)) (all_view (fun q hq=>Ent.manyInts (i:=8) (k:=q) rfl ⟨by omega,hq⟩) (i:=6) rfl (by omega) (by omega) (by omega)) (hs11.get (by omega)) (all_view (fun q hq=>Ent.manyInts (i:=8) (k:=q) rfl ⟨by omega,hq⟩) (i:=6) rfl (by omega) (by omega) (by omega)) (hS) (hrx) (hry) (by omega))))) rfl
 intro θ hall
 obtain⟨_,_,_,_,_,_,_,_,_⟩:=hall
 refine G.at [] 0 (env':=[(2,.pointer (some ⟨g1,0,none⟩)),(4,.pointer (some ⟨g2,0,none⟩)),(5,v3),(6,.int .i64 ((u4.length:Nat))),(7,v8),(8,.pointer (some ⟨g13,0,none⟩)),(9,.pointer (some ⟨g20,0,none⟩)),(10,.int .i64 ((u:Int))),(11,((u4++u9).getD (u) undef)),(12,.int .i64 ((iu:Int))),(15,.int .i64 ((v:Int))),(116,.agg #[.int .i64 (p),.int .i64 ((2*(u4.length:Nat))+cr),v18]),(117,.int .i64 ((iu:Int))),(118,.int .i64 ((jv:Int))),(119,.int .i64 ((z:Int))),(123,.int .i64 (nF cr cd ((allR cr cd).getD (u) []) ((allR cr cd).getD (v) [])))]) ⟨rfl,rfl,rfl,rfl,rfl,rfl,rfl,rfl,rfl,rfl,rfl,rfl,rfl,rfl,rfl,rfl,trivial⟩ (own':=ints 3 v35 (lpF ((allR cr cd).getD (u) []) 1 ((allR cr cd).getD (v) []))::ints 3 v26 (mnF ((allR cr cd).getD (v) []))::ints 3 v22 (wtF cr cd ((allR cr cd).getD (u) []))::box g20 43 [.int .i64 (p),.int .i64 ((2*(u4.length:Nat))+cr),v18]::ints 3 v18 us::box g13 147 [.int .i64 (cr),vcd,v3,v14,v15]::memS 4 3 v14 v15 cr cd::lst 22 v8 (u4++u9)::many (ints 3) u9 ((rSt cr cd).map mnF)::lst 22 v3 u4::many (ints 3) u4 (rSt cr cd)::box g2 43 [.int .i64 (0),.int .i64 (0),.slice none 0 0]::box g1 27 [.int .i64 (cr),vcd]::own) rfl ?_
 show G _ _ _ [_] _ _ _ _
 refine G.at [4] 0 (env':=[(2,.pointer (some ⟨g1,0,none⟩)),(4,.pointer (some ⟨g2,0,none⟩)),(5,v3),(6,.int .i64 ((u4.length:Nat))),(7,v8),(8,.pointer (some ⟨g13,0,none⟩)),(9,.pointer (some ⟨g20,0,none⟩)),(10,.int .i64 ((u:Int))),(11,((u4++u9).getD (u) undef)),(12,.int .i64 ((iu:Int))),(15,.int .i64 ((v:Int))),(116,.agg #[.int .i64 (p),.int .i64 ((2*(u4.length:Nat))+cr),v18]),(117,.int .i64 ((iu:Int))),(118,.int .i64 ((jv:Int))),(119,.int .i64 ((z:Int))),(123,.int .i64 (nF cr cd ((allR cr cd).getD (u) []) ((allR cr cd).getD (v) [])))]) ⟨rfl,rfl,rfl,rfl,rfl,rfl,rfl,rfl,rfl,rfl,rfl,rfl,rfl,rfl,rfl,rfl,trivial⟩ (own':=ints 3 v18 us::ints 3 v35 (lpF ((allR cr cd).getD (u) []) 1 ((allR cr cd).getD (v) []))::ints 3 v26 (mnF ((allR cr cd).getD (v) []))::ints 3 v22 (wtF cr cd ((allR cr cd).getD (u) []))::box g20 43 [.int .i64 (p),.int .i64 ((2*(u4.length:Nat))+cr),v18]::box g13 147 [.int .i64 (cr),vcd,v3,v14,v15]::memS 4 3 v14 v15 cr cd::lst 22 v8 (u4++u9)::many (ints 3) u9 ((rSt cr cd).map mnF)::lst 22 v3 u4::many (ints 3) u4 (rSt cr cd)::box g2 43 [.int .i64 (0),.int .i64 (0),.slice none 0 0]::box g1 27 [.int .i64 (cr),vcd]::own) rfl ?_
 refine G.step (OG.call [.agg #[.int .i64 (p),.int .i64 ((2*(u4.length:Nat))+cr),v18],.int .i64 ((iu:Int)),.int .i64 ((jv:Int)),.int .i64 ((z:Int)),.int .i64 (nF cr cd ((allR cr cd).getD (u) []) ((allR cr cd).getD (v) []))] ent125 rfl rfl rfl rfl (by exact(l7Set_w hs19 (N:=smN cr cd) (by omega) (h28) (by omega) (by omega) (by omega) (by omega) (by omega) (by have:=hnb;omega)))) rfl rfl rfl ?_
 rintro _ _ ⟨rfl,rfl⟩
 refine Zn (GE.blockN (Zt (Zr ?_)))
 refine Zm rfl (Zd (OD.addI rfl rfl rfl (by first | omega | (simp only[List.length_set,List.length_replicate];omega))) rfl ?_)
 exact Za rfl (Zn (GE.again (v+1,(us.set ((iu*(smN cr cd)+jv)*(smN cr cd)+z) ((nF cr cd ((allR cr cd).getD (u) []) ((allR cr cd).getD (v) []))%p)).set ((jv*(smN cr cd)+iu)*(smN cr cd)+z) ((0 - (nF cr cd ((allR cr cd).getD (u) []) ((allR cr cd).getD (v) [])))%p)) (⟨by omega,hN.1⟩) (by first | omega | (dsimp only;omega)) ⟨rfl,rfl,rfl,rfl,rfl,rfl,rfl,rfl,rfl,rfl,rfl,trivial⟩ [3,3,0,2,2,2,2,2,2,2,2] 2 rfl))
 replace hc36:=of_decide_eq_false hc36
 refine Zk (GE.blockN (Zt (Zr ?_)))
 refine Zm rfl (Zd (OD.addI rfl rfl rfl (by omega)) rfl ?_)
 exact Za rfl (Zn (GE.again (v+1,us) (⟨by omega,hT2.no hS hu1 (by omega) hc28 (by omega)⟩) (by first | omega | (dsimp only;omega)) ⟨rfl,rfl,rfl,rfl,rfl,rfl,rfl,rfl,rfl,rfl,rfl,trivial⟩ [2,2,2,2,2,2,2,2,2,2,2] 2 rfl))
 replace hc25:=of_decide_eq_false hc25
 refine GC.exit (Zp (Zp (GE.hit (GE.blockN (Zt (Zr ?_))))))
 refine Zm rfl (Zd (OD.addI rfl rfl rfl (by omega)) rfl ?_)
 exact Za rfl (Zn (GE.again (u+1,us) (⟨by omega,SpI.up hS ((show v=u by omega) ▸ hT2) (by omega)⟩) (by first | omega | (dsimp only;omega)) ⟨rfl,rfl,rfl,rfl,rfl,rfl,rfl,rfl,trivial⟩ [1,1,1,1,1,1,1,1,1,1] 1 rfl))
 replace hc21:=of_decide_eq_false hc21
 refine GC.exit (Zp (Zp (GE.hit (Zt (Zs (Zr ?_))))))
 refine Zd (OD.loadAgg rfl ti43 rfl (i:=0) rfl (us:=[.int .i64 (p),.int .i64 ((2*(u4.length:Nat))+cr),v18]) rfl rfl) rfl ?_
 refine G.stepD0 (OD.store rfl ti43 rfl rfl (us:=[.int .i64 (p),.int .i64 ((2*(u4.length:Nat))+cr),v18]) rfl rfl (allC rfl (allC rfl (allC (IsS.one hs19) rfl))) (i:=8) rfl rfl) rfl rfl ?_
 refine Zn (Zt (GC.ret ?_))
 exact GE.body [1] 9 (resN rfl (RVs.cons (rv_cells ti43 rfl (i:=8) rfl rfl) RVs.nil) rfl) rfl (⟨v18,congr (congrArg (fun(a0:Int) (a1:Int)=>(.agg #[.int .i64 (a0),.int .i64 (a1),v18]:Value)) (rfl)) ((by omega:((2*(u4.length:Nat))+cr:Int)=(smN cr cd:Nat))),hs19,congrArg (fun(l0:List Int)=>ints 3 v18 l0::own) ((SpI.end_ ((show u=2*smM cr cd by omega) ▸ hT0):ys=stT cr cd p))⟩)
theorem specSimpleTable_w {W:World}{own:List Asn}{cr:Int}{vcd:Value}{cd:List Int}{p:Int}(scd:IsS vcd)(ecd:Ent own fun w=>Ints w vcd cd)(hl0:cd.length≤1073741824):Spec Tryz.prog 23 [.agg #[.int .i64 (cr),vcd],.int .i64 (p)] W own (fun v ow=>∃ (r2:Value),v = .tuple #[.agg #[.int .i64 (smAp cr cd p),.int .i64 (smAn cr cd p),r2],.bool (smOk cr cd p)]∧IsS r2∧ow=ints 3 r2 (smAd cr cd p)::own):=by
 refine Spec.enter Tryz.f23 _ Tryz.func23 rfl (n:=28) rfl rfl ?_
 refine Zs (Zr (G.step (OG.box (cs:=[.int .i64 (cr),vcd]) rfl rfl rfl) rfl rfl rfl ?_))
 rintro _ _ ⟨g1,rfl,rfl⟩
 refine G.step (OG.alloc rfl ti43 (zs:=[.int .i64 (0),.int .i64 (0),.slice none 0 0]) rfl) rfl rfl rfl ?_
 rintro _ _ ⟨g2,rfl,rfl⟩
 refine Za rfl (Zn (Zt (Zs (Zs ?_))))
 rcases Bool.eq_false_or_eq_true ((tyS cr cd).isSome) with hx3 | hx3
 rcases Bool.eq_false_or_eq_true (primeB p) with hx4 | hx4
 rcases Bool.eq_false_or_eq_true (decide (smN cr cd≤28)) with hx5 | hx5
 have hS:(tyS cr cd).isSome=true:=hx3
 have hcr:=(tyS_ok hS).1
 have hcd:=(tyS_ok hS).2
 have hMl:smM cr cd=(rSt cr cd).length:=rfl
 have hNl:smN cr cd=2*smM cr cd+cr.toNat:=rfl
 have hr4:=(rtOk hS).rk
 have hlo:=(rtOk hS).lo
 have hRf:(rSt cr cd).length≤30:=by have h1:=(rtOk hS).slen;have h2:=(rtOk hS).few;omega
 have hPr:primeB p=true:=hx4
 have h28:=of_decide_eq_true hx5
 have hOk:smOk cr cd p=true:=by rw[smOk,hx3,hx4,hx5] <;> rfl
 refine GC.at [] 0 (env':=[(1,.int .i64 (p)),(2,.pointer (some ⟨g1,0,none⟩)),(4,.pointer (some ⟨g2,0,none⟩))]) ⟨rfl,rfl,rfl,trivial⟩ rfl ?_
 refine GC.par (its:=[Z0 6 (.agg #[.int .i64 (cr),vcd]),
     Z1 7 [(0,6)] (.bool true),
     Z1 8 [(1,7)] (.bool false),
     Z1 9 [(2,8)] (.bool false),
     Z1 10 [(3,9)] (.int .i64 (p)),
     Z1 11 [(3,9),(4,10)] (.bool true),
     Z1 12 [(3,9),(5,11)] (.bool false),
     Z1 13 [(3,9),(6,12)] (.bool false),
     Z1 14 [(7,13)] (.bool false),
     Z1 15 [(8,14)] (.agg #[.int .i64 (cr),vcd]),
     ⟨16,[(8,14),(9,15)],[],[],[10],fun ds=>((ds.getD 0 []).getD 0 undef),fun ds=>IsS ((ds.getD 0 []).getD 0 undef)∧AllS (usOf ((ds.getD 0 []).getD 1 undef))∧(usOf ((ds.getD 0 []).getD 1 undef)).length=(rSt cr cd).length,fun ds=>[lst 22 ((ds.getD 0 []).getD 0 undef) (usOf ((ds.getD 0 []).getD 1 undef)),many (ints 3) (usOf ((ds.getD 0 []).getD 1 undef)) (rSt cr cd)]⟩,
     ⟨17,[(8,14),(10,16)],[10],[],[10],fun _ => .int .i64 ((((rSt cr cd).length:Nat):Int)),fun _=>True,fun _=>[]⟩,
     ⟨18,[(8,14),(11,17)],[10],[],[10],fun _ => .int .i64 (2*(((rSt cr cd).length:Nat):Int)),fun _=>True,fun _=>[]⟩,
     Z1 19 [(8,14)] (.pointer (some ⟨g1,0,none⟩)),
     Z1 20 [(8,14),(13,19)] (.int .i64 (cr)),
     ⟨21,[(8,14),(12,18),(14,20)],[10],[],[10],fun _ => .int .i64 ((2*(((rSt cr cd).length:Nat):Int))+cr),fun _=>True,fun _=>[]⟩,
     ⟨22,[(8,14),(15,21)],[10],[],[10],fun _ => .bool false,fun _=>True,fun _=>[]⟩,
     ⟨23,[(8,14),(16,22)],[10],[],[10],fun _ => .bool false,fun _=>True,fun _=>[]⟩]) (by kernel_rfl) (by kernel_rfl) (Zc ?_ (Zc ?_ (Zc ?_ (Zc ?_ (Zc ?_ (Zc ?_ (Zc ?_ (Zc ?_ (Zc ?_ (Zc ?_ (Zc ?_ (Zc ?_ (Zc ?_ (Zc ?_ (Zc ?_ (Zc ?_ (Zc ?_ (Zc ?_ POps.nil)))))))))))))))))) ?_
 exact fun θ R hd=>Zq (OD.loadAgg rfl ti27 rfl (i:=1) rfl (us:=[.int .i64 (cr),vcd]) rfl rfl) rfl
 exact fun θ R ⟨h0d,_⟩=>Zq (OG.imp (K':=fun v ow=>v = .bool true∧ow=box g2 43 [.int .i64 (0),.int .i64 (0),.slice none 0 0]::box g1 27 [.int .i64 (cr),vcd]::own++R) (OG.call [.agg #[.int .i64 (cr),vcd]] ent58 rfl rfl rfl rfl (by exact(specIsCartan_w scd (Ent.drop 2 ecd.app) (hl0)))) (by rintro _ _ ⟨rfl,rfl⟩;exact⟨congrArg Value.bool (hx3),rfl⟩)) rfl
 exact fun θ R ⟨h1d,_⟩=>Zq (OD.not rfl rfl) rfl
 exact fun θ R ⟨h2d,_⟩=>Zq (OD.move rfl rfl) rfl
 exact fun θ R ⟨h3d,_⟩=>Zo (OD.move rfl rfl) rfl rfl rfl rfl trivial rfl
 exact fun θ R ⟨h3d,h4d,_⟩=>Zo (OG.imp (K':=fun v ow=>v = .bool true∧ow=box g2 43 [.int .i64 (0),.int .i64 (0),.slice none 0 0]::box g1 27 [.int .i64 (cr),vcd]::own++R) (OG.call [.int .i64 (p)] ent59 rfl rfl rfl rfl (by exact specIsPrime_s)) (by rintro _ _ ⟨rfl,rfl⟩;exact⟨congrArg Value.bool (hx4),rfl⟩)) rfl rfl rfl rfl trivial rfl
 exact fun θ R ⟨h3d,h5d,_⟩=>Zo (OD.not rfl rfl) rfl rfl rfl rfl trivial rfl
 exact fun θ R ⟨h3d,h6d,_⟩=>Zq (OD.pickF rfl rfl rfl) rfl
 exact fun θ R ⟨h7d,_⟩=>Zq (OD.move rfl rfl) rfl
 exact fun θ R ⟨h8d,_⟩=>Zo (OD.loadAgg rfl ti27 rfl (i:=1) rfl (us:=[.int .i64 (cr),vcd]) rfl rfl) rfl rfl rfl rfl trivial rfl
 exact fun θ R ⟨h8d,h9d,_⟩=>Opp.on (OG.imp (OG.call [.agg #[.int .i64 (cr),vcd]] ent39 rfl rfl rfl rfl (by exact(l5Roots_w scd (Ent.drop 2 ecd.app) (hcr) (hcd) (hS)))) (by rintro v6 _ ⟨_,u7,rfl,hs8,hs9,hs10,rfl⟩;exact⟨[v6,.agg u7.toArray],rfl,⟨hs8,hs9,hs10⟩,rfl⟩)) rfl rfl rfl
 exact fun θ R ⟨h8d,h10d,_⟩=>Zo (OD.eqv (OD.len rfl rfl et60 rfl (Ent.lst (i:=0) rfl)) (congrArg (Value.int .i64) ((by have h9:(usOf ((θ 10).getD 1 undef)).length=(rSt cr cd).length:=h10d.2.2;omega):(((usOf ((θ 10).getD 1 undef)).length:Nat):Int)=((((rSt cr cd).length:Nat):Int))))) rfl rfl rfl rfl trivial rfl
 exact fun θ R ⟨h8d,h11d,_⟩=>Zo (OD.mulI rfl rfl rfl (by omega)) rfl rfl rfl rfl trivial rfl
 exact fun θ R ⟨h8d,_⟩=>Zo (OD.fieldAddr rfl rfl fa27_0) rfl rfl rfl rfl trivial rfl
 exact fun θ R ⟨h8d,h13d,_⟩=>Zo (OD.load rfl ti3 rfl (i:=1) rfl rfl) rfl rfl rfl rfl trivial rfl
 exact fun θ R ⟨h8d,h12d,h14d,_⟩=>Zo (OD.addI rfl rfl rfl (by omega)) rfl rfl rfl rfl trivial rfl
 exact fun θ R ⟨h8d,h15d,_⟩=>Zo (OD.eqv (OD.gtr rfl rfl rfl) (congrArg Value.bool ((decide_eq_false (by omega)):_=false))) rfl rfl rfl rfl trivial rfl
 exact fun θ R ⟨h8d,h16d,_⟩=>Zq (OD.pickF rfl rfl rfl) rfl
 intro θ hall
 obtain⟨_,_,_,_,_,_,_,_,_,_,h10a,_,_,_,_,_,_,_,_⟩:=hall
 refine G.at [] 0 (env':=[(1,.int .i64 (p)),(2,.pointer (some ⟨g1,0,none⟩)),(4,.pointer (some ⟨g2,0,none⟩)),(23,.bool false)]) ⟨rfl,rfl,rfl,rfl,trivial⟩ (own':=lst 22 ((θ 10).getD 0 undef) (usOf ((θ 10).getD 1 undef))::many (ints 3) (usOf ((θ 10).getD 1 undef)) (rSt cr cd)::box g2 43 [.int .i64 (0),.int .i64 (0),.slice none 0 0]::box g1 27 [.int .i64 (cr),vcd]::own) rfl ?_
 have hs11:IsS ((θ 10).getD 0 undef):=h10a.1
 have hs12:AllS (usOf ((θ 10).getD 1 undef)):=h10a.2.1
 have hs13:(usOf ((θ 10).getD 1 undef)).length=(rSt cr cd).length:=h10a.2.2
 clear h10a
 generalize ((θ 10).getD 0 undef)=v14 at *
 generalize (usOf ((θ 10).getD 1 undef))=u15 at *
 show G _ _ _ [] _ _ _ _
 refine Zn (Zt (GC.condF rfl (Zk (Zt (Zs (Zr ?_))))))
 refine Zd (OD.loadAgg rfl ti27 rfl (i:=3) rfl (us:=[.int .i64 (cr),vcd]) rfl rfl) rfl ?_
 refine Zm rfl (G.step (OG.call [.agg #[.int .i64 (cr),vcd],.int .i64 (p)] ent60 rfl rfl rfl rfl (by exact(l7Table_w scd (Ent.drop 4 ecd) (hS) (hPr) (h28)))) rfl rfl rfl ?_)
 rintro _ _ ⟨v16,rfl,hs17,rfl⟩
 refine G.stepD0 (OD.store rfl ti43 rfl rfl (us:=[.int .i64 (p),.int .i64 ((smN cr cd:Nat)),v16]) rfl rfl (allC rfl (allC rfl (allC (IsS.one hs17) rfl))) (i:=3) rfl rfl) rfl rfl ?_
 refine Za rfl (Zn (Zt (GC.ret ?_)))
 exact GE.body [0] 4 (resN rfl (RVs.cons (rv_cells ti43 rfl (i:=3) rfl rfl) (RVs.cons (rv_tmp rfl) RVs.nil)) rfl) rfl (⟨v16,congr (congr (congrArg (fun(a0:Int) (a1:Int) (a3:Bool)=>(.tuple #[.agg #[.int .i64 (a0),.int .i64 (a1),v16],.bool (a3)]:Value)) ((by rw[smAp,hOk] <;> rfl:(p:Int)=smAp cr cd p))) ((by rw[smAn,hOk] <;> rfl:((smN cr cd:Nat):Int)=smAn cr cd p))) ((hOk.symm:(true:Bool)=smOk cr cd p)),hs17,congrArg (fun(l0:List Int)=>ints 3 v16 l0::own) ((by rw[smAd,hOk] <;> rfl:stT cr cd p=smAd cr cd p))⟩)
 have hS:(tyS cr cd).isSome=true:=hx3
 have hcr:=(tyS_ok hS).1
 have hcd:=(tyS_ok hS).2
 have hMl:smM cr cd=(rSt cr cd).length:=rfl
 have hNl:smN cr cd=2*smM cr cd+cr.toNat:=rfl
 have hr4:=(rtOk hS).rk
 have hlo:=(rtOk hS).lo
 have hRf:(rSt cr cd).length≤30:=by have h1:=(rtOk hS).slen;have h2:=(rtOk hS).few;omega
 have hPr:primeB p=true:=hx4
 have h28:=of_decide_eq_false hx5
 have hOk:smOk cr cd p=false:=by rw[smOk,hx3,hx4,hx5] <;> rfl
 refine GC.at [] 0 (env':=[(1,.int .i64 (p)),(2,.pointer (some ⟨g1,0,none⟩)),(4,.pointer (some ⟨g2,0,none⟩))]) ⟨rfl,rfl,rfl,trivial⟩ rfl ?_
 refine GC.par (its:=[Z0 6 (.agg #[.int .i64 (cr),vcd]),
     Z1 7 [(0,6)] (.bool true),
     Z1 8 [(1,7)] (.bool false),
     Z1 9 [(2,8)] (.bool false),
     Z1 10 [(3,9)] (.int .i64 (p)),
     Z1 11 [(3,9),(4,10)] (.bool true),
     Z1 12 [(3,9),(5,11)] (.bool false),
     Z1 13 [(3,9),(6,12)] (.bool false),
     Z1 14 [(7,13)] (.bool false),
     Z1 15 [(8,14)] (.agg #[.int .i64 (cr),vcd]),
     ⟨16,[(8,14),(9,15)],[],[],[10],fun ds=>((ds.getD 0 []).getD 0 undef),fun ds=>IsS ((ds.getD 0 []).getD 0 undef)∧AllS (usOf ((ds.getD 0 []).getD 1 undef))∧(usOf ((ds.getD 0 []).getD 1 undef)).length=(rSt cr cd).length,fun ds=>[lst 22 ((ds.getD 0 []).getD 0 undef) (usOf ((ds.getD 0 []).getD 1 undef)),many (ints 3) (usOf ((ds.getD 0 []).getD 1 undef)) (rSt cr cd)]⟩,
     ⟨17,[(8,14),(10,16)],[10],[],[10],fun _ => .int .i64 ((((rSt cr cd).length:Nat):Int)),fun _=>True,fun _=>[]⟩,
     ⟨18,[(8,14),(11,17)],[10],[],[10],fun _ => .int .i64 (2*(((rSt cr cd).length:Nat):Int)),fun _=>True,fun _=>[]⟩,
     Z1 19 [(8,14)] (.pointer (some ⟨g1,0,none⟩)),
     Z1 20 [(8,14),(13,19)] (.int .i64 (cr)),
     ⟨21,[(8,14),(12,18),(14,20)],[10],[],[10],fun _ => .int .i64 ((2*(((rSt cr cd).length:Nat):Int))+cr),fun _=>True,fun _=>[]⟩,
     ⟨22,[(8,14),(15,21)],[10],[],[10],fun _ => .bool true,fun _=>True,fun _=>[]⟩,
     ⟨23,[(8,14),(16,22)],[10],[],[10],fun _ => .bool true,fun _=>True,fun _=>[]⟩]) (by kernel_rfl) (by kernel_rfl) (Zc ?_ (Zc ?_ (Zc ?_ (Zc ?_ (Zc ?_ (Zc ?_ (Zc ?_ (Zc ?_ (Zc ?_ (Zc ?_ (Zc ?_ (Zc ?_ (Zc ?_ (Zc ?_ (Zc ?_ (Zc ?_ (Zc ?_ (Zc ?_ POps.nil)))))))))))))))))) ?_
 exact fun θ R hd=>Zq (OD.loadAgg rfl ti27 rfl (i:=1) rfl (us:=[.int .i64 (cr),vcd]) rfl rfl) rfl
 exact fun θ R ⟨h0d,_⟩=>Zq (OG.imp (K':=fun v ow=>v = .bool true∧ow=box g2 43 [.int .i64 (0),.int .i64 (0),.slice none 0 0]::box g1 27 [.int .i64 (cr),vcd]::own++R) (OG.call [.agg #[.int .i64 (cr),vcd]] ent58 rfl rfl rfl rfl (by exact(specIsCartan_w scd (Ent.drop 2 ecd.app) (hl0)))) (by rintro _ _ ⟨rfl,rfl⟩;exact⟨congrArg Value.bool (hx3),rfl⟩)) rfl
 exact fun θ R ⟨h1d,_⟩=>Zq (OD.not rfl rfl) rfl
 exact fun θ R ⟨h2d,_⟩=>Zq (OD.move rfl rfl) rfl
 exact fun θ R ⟨h3d,_⟩=>Zo (OD.move rfl rfl) rfl rfl rfl rfl trivial rfl
 exact fun θ R ⟨h3d,h4d,_⟩=>Zo (OG.imp (K':=fun v ow=>v = .bool true∧ow=box g2 43 [.int .i64 (0),.int .i64 (0),.slice none 0 0]::box g1 27 [.int .i64 (cr),vcd]::own++R) (OG.call [.int .i64 (p)] ent59 rfl rfl rfl rfl (by exact specIsPrime_s)) (by rintro _ _ ⟨rfl,rfl⟩;exact⟨congrArg Value.bool (hx4),rfl⟩)) rfl rfl rfl rfl trivial rfl
 exact fun θ R ⟨h3d,h5d,_⟩=>Zo (OD.not rfl rfl) rfl rfl rfl rfl trivial rfl
 exact fun θ R ⟨h3d,h6d,_⟩=>Zq (OD.pickF rfl rfl rfl) rfl
 exact fun θ R ⟨h7d,_⟩=>Zq (OD.move rfl rfl) rfl
 exact fun θ R ⟨h8d,_⟩=>Zo (OD.loadAgg rfl ti27 rfl (i:=1) rfl (us:=[.int .i64 (cr),vcd]) rfl rfl) rfl rfl rfl rfl trivial rfl
 exact fun θ R ⟨h8d,h9d,_⟩=>Opp.on (OG.imp (OG.call [.agg #[.int .i64 (cr),vcd]] ent39 rfl rfl rfl rfl (by exact(l5Roots_w scd (Ent.drop 2 ecd.app) (hcr) (hcd) (hS)))) (by rintro v18 _ ⟨_,u19,rfl,hs20,hs21,hs22,rfl⟩;exact⟨[v18,.agg u19.toArray],rfl,⟨hs20,hs21,hs22⟩,rfl⟩)) rfl rfl rfl
 exact fun θ R ⟨h8d,h10d,_⟩=>Zo (OD.eqv (OD.len rfl rfl et60 rfl (Ent.lst (i:=0) rfl)) (congrArg (Value.int .i64) ((by have h9:(usOf ((θ 10).getD 1 undef)).length=(rSt cr cd).length:=h10d.2.2;omega):(((usOf ((θ 10).getD 1 undef)).length:Nat):Int)=((((rSt cr cd).length:Nat):Int))))) rfl rfl rfl rfl trivial rfl
 exact fun θ R ⟨h8d,h11d,_⟩=>Zo (OD.mulI rfl rfl rfl (by omega)) rfl rfl rfl rfl trivial rfl
 exact fun θ R ⟨h8d,_⟩=>Zo (OD.fieldAddr rfl rfl fa27_0) rfl rfl rfl rfl trivial rfl
 exact fun θ R ⟨h8d,h13d,_⟩=>Zo (OD.load rfl ti3 rfl (i:=1) rfl rfl) rfl rfl rfl rfl trivial rfl
 exact fun θ R ⟨h8d,h12d,h14d,_⟩=>Zo (OD.addI rfl rfl rfl (by omega)) rfl rfl rfl rfl trivial rfl
 exact fun θ R ⟨h8d,h15d,_⟩=>Zo (OD.eqv (OD.gtr rfl rfl rfl) (congrArg Value.bool ((decide_eq_true (by omega)):_=true))) rfl rfl rfl rfl trivial rfl
 exact fun θ R ⟨h8d,h16d,_⟩=>Zq (OD.pickF rfl rfl rfl) rfl
 intro θ hall
 obtain⟨_,_,_,_,_,_,_,_,_,_,h10a,_,_,_,_,_,_,_,_⟩:=hall
 refine G.at [] 0 (env':=[(1,.int .i64 (p)),(2,.pointer (some ⟨g1,0,none⟩)),(4,.pointer (some ⟨g2,0,none⟩)),(23,.bool true)]) ⟨rfl,rfl,rfl,rfl,trivial⟩ (own':=lst 22 ((θ 10).getD 0 undef) (usOf ((θ 10).getD 1 undef))::many (ints 3) (usOf ((θ 10).getD 1 undef)) (rSt cr cd)::box g2 43 [.int .i64 (0),.int .i64 (0),.slice none 0 0]::box g1 27 [.int .i64 (cr),vcd]::own) rfl ?_
 have hs23:IsS ((θ 10).getD 0 undef):=h10a.1
 have hs24:AllS (usOf ((θ 10).getD 1 undef)):=h10a.2.1
 have hs25:(usOf ((θ 10).getD 1 undef)).length=(rSt cr cd).length:=h10a.2.2
 clear h10a
 generalize ((θ 10).getD 0 undef)=v26 at *
 generalize (usOf ((θ 10).getD 1 undef))=u27 at *
 show G _ _ _ [] _ _ _ _
 refine Zn (Zt (GC.condT rfl (Zs (Zr ?_))))
 refine Zd (OD.build (idx:=[]) (xs:=[]) (vs:=[]) (cs:=[]) (zs:=[.int .i64 (0),.int .i64 (0),.slice none 0 0]) (r:=[.int .i64 (0),.int .i64 (0),.slice none 0 0]) rfl ti43 rfl rfl rfl trivial rfl) rfl ?_
 refine G.stepD0 (OD.store rfl ti43 rfl rfl (us:=[.int .i64 (0),.int .i64 (0),.slice none 0 0]) rfl rfl rfl (i:=2) rfl rfl) rfl rfl ?_
 refine Za rfl (Zn (Zt (GC.ret (GE.passR ?_))))
 refine GE.nilInts 3 ?_
 exact GE.body [0] 4 (resN rfl (RVs.cons (rv_cells ti43 rfl (i:=3) rfl rfl) (RVs.cons (rv_tmp rfl) RVs.nil)) rfl) rfl (⟨(.slice none 0 0),congr (congr (congrArg (fun(a0:Int) (a1:Int) (a3:Bool)=>(.tuple #[.agg #[.int .i64 (a0),.int .i64 (a1),(.slice none 0 0)],.bool (a3)]:Value)) ((by rw[smAp,hOk] <;> rfl:(0:Int)=smAp cr cd p))) ((by rw[smAn,hOk] <;> rfl:(0:Int)=smAn cr cd p))) ((hOk.symm:(false:Bool)=smOk cr cd p)),IsS.nil,congrArg (fun(l0:List Int)=>ints 3 (.slice none 0 0) l0::own) ((by rw[smAd,hOk] <;> rfl : []=smAd cr cd p))⟩)
 have hS:(tyS cr cd).isSome=true:=hx3
 have hcr:=(tyS_ok hS).1
 have hcd:=(tyS_ok hS).2
 have hMl:smM cr cd=(rSt cr cd).length:=rfl
 have hNl:smN cr cd=2*smM cr cd+cr.toNat:=rfl
 have hr4:=(rtOk hS).rk
 have hlo:=(rtOk hS).lo
 have hRf:(rSt cr cd).length≤30:=by have h1:=(rtOk hS).slen;have h2:=(rtOk hS).few;omega
 have hOk:smOk cr cd p=false:=by simp[smOk,hx3,hx4]
 refine GC.at [] 0 (env':=[(1,.int .i64 (p)),(2,.pointer (some ⟨g1,0,none⟩)),(4,.pointer (some ⟨g2,0,none⟩))]) ⟨rfl,rfl,rfl,trivial⟩ rfl ?_
 refine GC.par (its:=[Z0 6 (.agg #[.int .i64 (cr),vcd]),
     Z1 7 [(0,6)] (.bool true),
     Z1 8 [(1,7)] (.bool false),
     Z1 9 [(2,8)] (.bool false),
     Z1 10 [(3,9)] (.int .i64 (p)),
     Z1 11 [(3,9),(4,10)] (.bool false),
     Z1 12 [(3,9),(5,11)] (.bool true),
     Z1 13 [(3,9),(6,12)] (.bool true),
     Z1 14 [(7,13)] (.bool true),
     Z1 15 [(8,14)] undef,
     Z1 16 [(8,14),(9,15)] undef,
     Z1 17 [(8,14),(10,16)] undef,
     Z1 18 [(8,14),(11,17)] undef,
     Z1 19 [(8,14)] undef,
     Z1 20 [(8,14),(13,19)] undef,
     Z1 21 [(8,14),(12,18),(14,20)] undef,
     Z1 22 [(8,14),(15,21)] undef,
     Z1 23 [(8,14),(16,22)] (.bool true)]) (by kernel_rfl) (by kernel_rfl) (Zc ?_ (Zc ?_ (Zc ?_ (Zc ?_ (Zc ?_ (Zc ?_ (Zc ?_ (Zc ?_ (Zc ?_ (Zc ?_ (Zc ?_ (Zc ?_ (Zc ?_ (Zc ?_ (Zc ?_ (Zc ?_ (Zc ?_ (Zc ?_ POps.nil)))))))))))))))))) ?_
 exact fun θ R hd=>Zq (OD.loadAgg rfl ti27 rfl (i:=1) rfl (us:=[.int .i64 (cr),vcd]) rfl rfl) rfl
 exact fun θ R ⟨h0d,_⟩=>Zq (OG.imp (K':=fun v ow=>v = .bool true∧ow=box g2 43 [.int .i64 (0),.int .i64 (0),.slice none 0 0]::box g1 27 [.int .i64 (cr),vcd]::own++R) (OG.call [.agg #[.int .i64 (cr),vcd]] ent58 rfl rfl rfl rfl (by exact(specIsCartan_w scd (Ent.drop 2 ecd.app) (hl0)))) (by rintro _ _ ⟨rfl,rfl⟩;exact⟨congrArg Value.bool (hx3),rfl⟩)) rfl
 exact fun θ R ⟨h1d,_⟩=>Zq (OD.not rfl rfl) rfl
 exact fun θ R ⟨h2d,_⟩=>Zq (OD.move rfl rfl) rfl
 exact fun θ R ⟨h3d,_⟩=>Zo (OD.move rfl rfl) rfl rfl rfl rfl trivial rfl
 exact fun θ R ⟨h3d,h4d,_⟩=>Zo (OG.imp (K':=fun v ow=>v = .bool false∧ow=box g2 43 [.int .i64 (0),.int .i64 (0),.slice none 0 0]::box g1 27 [.int .i64 (cr),vcd]::own++R) (OG.call [.int .i64 (p)] ent59 rfl rfl rfl rfl (by exact specIsPrime_s)) (by rintro _ _ ⟨rfl,rfl⟩;exact⟨congrArg Value.bool (hx4),rfl⟩)) rfl rfl rfl rfl trivial rfl
 exact fun θ R ⟨h3d,h5d,_⟩=>Zo (OD.not rfl rfl) rfl rfl rfl rfl trivial rfl
 exact fun θ R ⟨h3d,h6d,_⟩=>Zq (OD.pickF rfl rfl rfl) rfl
 exact fun θ R ⟨h7d,_⟩=>Zq (OD.move rfl rfl) rfl
 exact fun θ R ⟨h8d,_⟩=>Opp.off ⟨[],rfl,trivial,rfl⟩ rfl rfl rfl rfl
 exact fun θ R ⟨h8d,h9d,_⟩=>Opp.off ⟨[],rfl,trivial,rfl⟩ rfl rfl rfl rfl
 exact fun θ R ⟨h8d,h10d,_⟩=>Opp.off ⟨[],rfl,trivial,rfl⟩ rfl rfl rfl rfl
 exact fun θ R ⟨h8d,h11d,_⟩=>Opp.off ⟨[],rfl,trivial,rfl⟩ rfl rfl rfl rfl
 exact fun θ R ⟨h8d,_⟩=>Opp.off ⟨[],rfl,trivial,rfl⟩ rfl rfl rfl rfl
 exact fun θ R ⟨h8d,h13d,_⟩=>Opp.off ⟨[],rfl,trivial,rfl⟩ rfl rfl rfl rfl
 exact fun θ R ⟨h8d,h12d,h14d,_⟩=>Opp.off ⟨[],rfl,trivial,rfl⟩ rfl rfl rfl rfl
 exact fun θ R ⟨h8d,h15d,_⟩=>Opp.off ⟨[],rfl,trivial,rfl⟩ rfl rfl rfl rfl
 exact fun θ R ⟨h8d,h16d,_⟩=>Zq (OD.pickT rfl rfl rfl) rfl
 intro θ hall
 obtain⟨_,_,_,_,_,_,_,_,_,_,_,_,_,_,_,_,_,_,_⟩:=hall
 refine G.at [] 0 (env':=[(1,.int .i64 (p)),(2,.pointer (some ⟨g1,0,none⟩)),(4,.pointer (some ⟨g2,0,none⟩)),(23,.bool true)]) ⟨rfl,rfl,rfl,rfl,trivial⟩ (own':=box g2 43 [.int .i64 (0),.int .i64 (0),.slice none 0 0]::box g1 27 [.int .i64 (cr),vcd]::own) rfl ?_
 show G _ _ _ [] _ _ _ _
 refine Zn (Zt (GC.condT rfl (Zs (Zr ?_))))
 refine Zd (OD.build (idx:=[]) (xs:=[]) (vs:=[]) (cs:=[]) (zs:=[.int .i64 (0),.int .i64 (0),.slice none 0 0]) (r:=[.int .i64 (0),.int .i64 (0),.slice none 0 0]) rfl ti43 rfl rfl rfl trivial rfl) rfl ?_
 refine G.stepD0 (OD.store rfl ti43 rfl rfl (us:=[.int .i64 (0),.int .i64 (0),.slice none 0 0]) rfl rfl rfl (i:=0) rfl rfl) rfl rfl ?_
 refine Za rfl (Zn (Zt (GC.ret (GE.passR ?_))))
 refine GE.nilInts 3 ?_
 exact GE.body [0] 2 (resN rfl (RVs.cons (rv_cells ti43 rfl (i:=1) rfl rfl) (RVs.cons (rv_tmp rfl) RVs.nil)) rfl) rfl (⟨(.slice none 0 0),congr (congr (congrArg (fun(a0:Int) (a1:Int) (a3:Bool)=>(.tuple #[.agg #[.int .i64 (a0),.int .i64 (a1),(.slice none 0 0)],.bool (a3)]:Value)) ((by rw[smAp,hOk] <;> rfl:(0:Int)=smAp cr cd p))) ((by rw[smAn,hOk] <;> rfl:(0:Int)=smAn cr cd p))) ((hOk.symm:(false:Bool)=smOk cr cd p)),IsS.nil,congrArg (fun(l0:List Int)=>ints 3 (.slice none 0 0) l0::own) ((by rw[smAd,hOk] <;> rfl : []=smAd cr cd p))⟩)
 have hOk:smOk cr cd p=false:=by simp[smOk,hx3]
 refine GC.at [] 0 (env':=[(1,.int .i64 (p)),(2,.pointer (some ⟨g1,0,none⟩)),(4,.pointer (some ⟨g2,0,none⟩))]) ⟨rfl,rfl,rfl,trivial⟩ rfl ?_
 refine GC.par (its:=[Z0 6 (.agg #[.int .i64 (cr),vcd]),
     Z1 7 [(0,6)] (.bool false),
     Z1 8 [(1,7)] (.bool true),
     Z1 9 [(2,8)] (.bool true),
     Z1 10 [(3,9)] undef,
     Z1 11 [(3,9),(4,10)] undef,
     Z1 12 [(3,9),(5,11)] undef,
     Z1 13 [(3,9),(6,12)] (.bool true),
     Z1 14 [(7,13)] (.bool true),
     Z1 15 [(8,14)] undef,
     Z1 16 [(8,14),(9,15)] undef,
     Z1 17 [(8,14),(10,16)] undef,
     Z1 18 [(8,14),(11,17)] undef,
     Z1 19 [(8,14)] undef,
     Z1 20 [(8,14),(13,19)] undef,
     Z1 21 [(8,14),(12,18),(14,20)] undef,
     Z1 22 [(8,14),(15,21)] undef,
     Z1 23 [(8,14),(16,22)] (.bool true)]) (by kernel_rfl) (by kernel_rfl) (Zc ?_ (Zc ?_ (Zc ?_ (Zc ?_ (Zc ?_ (Zc ?_ (Zc ?_ (Zc ?_ (Zc ?_ (Zc ?_ (Zc ?_ (Zc ?_ (Zc ?_ (Zc ?_ (Zc ?_ (Zc ?_ (Zc ?_ (Zc ?_ POps.nil)))))))))))))))))) ?_
 exact fun θ R hd=>Zq (OD.loadAgg rfl ti27 rfl (i:=1) rfl (us:=[.int .i64 (cr),vcd]) rfl rfl) rfl
 exact fun θ R ⟨h0d,_⟩=>Zq (OG.imp (K':=fun v ow=>v = .bool false∧ow=box g2 43 [.int .i64 (0),.int .i64 (0),.slice none 0 0]::box g1 27 [.int .i64 (cr),vcd]::own++R) (OG.call [.agg #[.int .i64 (cr),vcd]] ent58 rfl rfl rfl rfl (by exact(specIsCartan_w scd (Ent.drop 2 ecd.app) (hl0)))) (by rintro _ _ ⟨rfl,rfl⟩;exact⟨congrArg Value.bool (hx3),rfl⟩)) rfl
 exact fun θ R ⟨h1d,_⟩=>Zq (OD.not rfl rfl) rfl
 exact fun θ R ⟨h2d,_⟩=>Zq (OD.move rfl rfl) rfl
 exact fun θ R ⟨h3d,_⟩=>Opp.off ⟨[],rfl,trivial,rfl⟩ rfl rfl rfl rfl
 exact fun θ R ⟨h3d,h4d,_⟩=>Opp.off ⟨[],rfl,trivial,rfl⟩ rfl rfl rfl rfl
 exact fun θ R ⟨h3d,h5d,_⟩=>Opp.off ⟨[],rfl,trivial,rfl⟩ rfl rfl rfl rfl
 exact fun θ R ⟨h3d,h6d,_⟩=>Zq (OD.pickT rfl rfl rfl) rfl
 exact fun θ R ⟨h7d,_⟩=>Zq (OD.move rfl rfl) rfl
 exact fun θ R ⟨h8d,_⟩=>Opp.off ⟨[],rfl,trivial,rfl⟩ rfl rfl rfl rfl
 exact fun θ R ⟨h8d,h9d,_⟩=>Opp.off ⟨[],rfl,trivial,rfl⟩ rfl rfl rfl rfl
 exact fun θ R ⟨h8d,h10d,_⟩=>Opp.off ⟨[],rfl,trivial,rfl⟩ rfl rfl rfl rfl
 exact fun θ R ⟨h8d,h11d,_⟩=>Opp.off ⟨[],rfl,trivial,rfl⟩ rfl rfl rfl rfl
 exact fun θ R ⟨h8d,_⟩=>Opp.off ⟨[],rfl,trivial,rfl⟩ rfl rfl rfl rfl
 exact fun θ R ⟨h8d,h13d,_⟩=>Opp.off ⟨[],rfl,trivial,rfl⟩ rfl rfl rfl rfl
 exact fun θ R ⟨h8d,h12d,h14d,_⟩=>Opp.off ⟨[],rfl,trivial,rfl⟩ rfl rfl rfl rfl
 exact fun θ R ⟨h8d,h15d,_⟩=>Opp.off ⟨[],rfl,trivial,rfl⟩ rfl rfl rfl rfl
 exact fun θ R ⟨h8d,h16d,_⟩=>Zq (OD.pickT rfl rfl rfl) rfl
 intro θ hall
 obtain⟨_,_,_,_,_,_,_,_,_,_,_,_,_,_,_,_,_,_,_⟩:=hall
 refine G.at [] 0 (env':=[(1,.int .i64 (p)),(2,.pointer (some ⟨g1,0,none⟩)),(4,.pointer (some ⟨g2,0,none⟩)),(23,.bool true)]) ⟨rfl,rfl,rfl,rfl,trivial⟩ (own':=box g2 43 [.int .i64 (0),.int .i64 (0),.slice none 0 0]::box g1 27 [.int .i64 (cr),vcd]::own) rfl ?_
 show G _ _ _ [] _ _ _ _
 refine Zn (Zt (GC.condT rfl (Zs (Zr ?_))))
 refine Zd (OD.build (idx:=[]) (xs:=[]) (vs:=[]) (cs:=[]) (zs:=[.int .i64 (0),.int .i64 (0),.slice none 0 0]) (r:=[.int .i64 (0),.int .i64 (0),.slice none 0 0]) rfl ti43 rfl rfl rfl trivial rfl) rfl ?_
 refine G.stepD0 (OD.store rfl ti43 rfl rfl (us:=[.int .i64 (0),.int .i64 (0),.slice none 0 0]) rfl rfl rfl (i:=0) rfl rfl) rfl rfl ?_
 refine Za rfl (Zn (Zt (GC.ret (GE.passR ?_))))
 refine GE.nilInts 3 ?_
 exact GE.body [0] 2 (resN rfl (RVs.cons (rv_cells ti43 rfl (i:=1) rfl rfl) (RVs.cons (rv_tmp rfl) RVs.nil)) rfl) rfl (⟨(.slice none 0 0),congr (congr (congrArg (fun(a0:Int) (a1:Int) (a3:Bool)=>(.tuple #[.agg #[.int .i64 (a0),.int .i64 (a1),(.slice none 0 0)],.bool (a3)]:Value)) ((by rw[smAp,hOk] <;> rfl:(0:Int)=smAp cr cd p))) ((by rw[smAn,hOk] <;> rfl:(0:Int)=smAn cr cd p))) ((hOk.symm:(false:Bool)=smOk cr cd p)),IsS.nil,congrArg (fun(l0:List Int)=>ints 3 (.slice none 0 0) l0::own) ((by rw[smAd,hOk] <;> rfl : []=smAd cr cd p))⟩)
end Go.Proofs.YtbmnnbglipkidaaGreatDoor
